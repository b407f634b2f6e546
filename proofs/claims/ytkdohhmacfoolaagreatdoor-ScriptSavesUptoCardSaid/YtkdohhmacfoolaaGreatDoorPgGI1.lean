/- Facts. No condition. -/
import Derived.Test.YtkdohhmacfoolaaGreatDoorPgSfP
set_option linter.unusedVariables false
set_option linter.unusedSimpArgs false
set_option maxRecDepth 20000
set_option maxHeartbeats 4000000
namespace Go.Proofs.YtkdohhmacfoolaaGreatDoor
open Go.Proofs.Tryz Go Go.AM
attribute [local irreducible] aY
structure bS where
 Key:Int
 N:Int
deriving DecidableEq
def aAi(e:bS):List AV:=[.v (.int .u64 e.Key),.v (.int .i64 e.N)]
theorem iM:CF aAi 2:=⟨fun _=>rfl,fun a x hx=>by
 simp only [aAi,List.mem_cons,List.not_mem_nil,or_false] at hx;rcases hx with rfl|rfl
 · exact (.v _)
 · exact (.v _),fun _=>rfl⟩
instance:CC aAi 2:=⟨iM⟩
abbrev aEd(e:bS):AV:= .agg [.v (.int .u64 e.Key),vi e.N]
@[go_sem] theorem aRv(e:bS)(r:List AV):aAi e++r= .v (.int .u64 e.Key):: .v (.int .i64 e.N)::r:=rfl
inductive aB where
 |nil
 |mk (ahead:aB) (behind:aB) (thing:bS) (height:Int) (size:Int)
def aB.ahead:aB→aB
 | .nil=>aB.nil
 | .mk ahead behind thing height size=>ahead
def aB.behind:aB→aB
 | .nil=>aB.nil
 | .mk ahead behind thing height size=>behind
def aB.thing:aB→bS
 | .nil=>(bS.mk 0 0)
 | .mk ahead behind thing height size=>thing
def aB.height:aB→Int
 | .nil=>0
 | .mk ahead behind thing height size=>height
def aB.size:aB→Int
 | .nil=>0
 | .mk ahead behind thing height size=>size
def aB.nn:aB→Bool
 | .nil=>false
 | .mk _ _ _ _ _=>true
def aB.av:aB→AV
 | .nil=> .v (.pointer none)
 | .mk ahead behind thing height size=> .ptr [ahead.av,behind.av,.v (.int .u64 thing.Key),.v (.int .i64 thing.N),.v (.int .i64 height),.v (.int .i64 size)]
theorem aB.data:(e:aB)→AM.Data e.av
 | .nil=> .v _
 | .mk ahead behind thing height size=> .ptr _ (fun a hx=>by
  simp only [List.mem_cons,List.not_mem_nil,or_false] at hx;rcases hx with rfl|rfl|rfl|rfl|rfl|rfl
  · exact ahead.data
  · exact behind.data
  · exact (.v _)
  · exact (.v _)
  · exact (.v _)
  · exact (.v _))
theorem aB.av_nn{e:aB}(h:e.nn=true):e.av= .ptr [aB.av e.ahead,aB.av e.behind,.v (.int .u64 e.thing.Key),.v (.int .i64 e.thing.N),.v (.int .i64 e.height),.v (.int .i64 e.size)]:=by
 cases e with
 |nil=>cases h
 |mk ahead behind thing height size=>rfl
theorem aB.isn(e:aB):((!e.nn)=true∧e.av= .v (.pointer none))∨((!e.nn)=false∧ ∃xs,e.av= .ptr xs):=by
 cases e with
 |nil=>exact .inl ⟨rfl,rfl⟩
 |mk ahead behind thing height size=>exact .inr ⟨rfl,_,rfl⟩
theorem aB.cells(e:aB):e.av.cells? =some [e.av]:=by cases e<;>rfl
theorem aB.one(e:aB):e.av.one=true:=by cases e<;>rfl
structure cC where
 s:aB
def aDc(e:cC):List AV:=[aB.av e.s]
theorem aEh:CF aDc 1:=⟨fun _=>rfl,fun a x hx=>by
 simp only [aDc,List.mem_cons,List.not_mem_nil,or_false] at hx;rcases hx with rfl
 · exact (aB.data a.s),fun e=>by unfold aDc;simp only [List.all_cons,List.all_nil,Bool.and_true,aB.one];try rfl⟩
instance:CC aDc 1:=⟨aEh⟩
abbrev xS(e:cC):AV:= .agg [aB.av e.s]
@[go_sem] theorem aRu(e:cC)(r:List AV):aDc e++r=aB.av e.s::r:=rfl
structure aN where
 Used:Bool
 Key:Int
deriving DecidableEq
def aW(e:aN):List AV:=[.v (.bool e.Used),.v (.int .u64 e.Key)]
theorem cW:CF aW 2:=⟨fun _=>rfl,fun a x hx=>by
 simp only [aW,List.mem_cons,List.not_mem_nil,or_false] at hx;rcases hx with rfl|rfl
 · exact (.v _)
 · exact (.v _),fun _=>rfl⟩
instance:CC aW 2:=⟨cW⟩
abbrev aQf(e:aN):AV:= .agg [.v (.bool e.Used),vu e.Key]
instance:CE prog 31 aW 2 (aN.mk false 0):=⟨_,underlying31,bQd,bQu,inferInstance,cW,by decide,by decide⟩
@[go_sem] theorem aQo(e:aN)(r:List AV):aW e++r= .v (.bool e.Used):: .v (.int .u64 e.Key)::r:=rfl
structure aC where
 Graph:aJ
 Slots:List aN
deriving DecidableEq
def aEn(e:aC):List AV:=[.v (.int .i64 e.Graph.Config.N),.v (.int .i64 e.Graph.Config.L),.v (.int .i64 e.Graph.Config.R),.sl (e.Graph.Hashes.flatMap cH) e.Graph.Hashes.length false,.sl (e.Graph.Edges.flatMap aV) e.Graph.Edges.length false,.sl (e.Slots.flatMap aW) e.Slots.length false]
theorem aMb:CF aEn 6:=⟨fun _=>rfl,fun a x hx=>by
 simp only [aEn,List.mem_cons,List.not_mem_nil,or_false] at hx;rcases hx with rfl|rfl|rfl|rfl|rfl|rfl
 · exact (.v _)
 · exact (.v _)
 · exact (.v _)
 · exact (jV.sl _ _ _)
 · exact (cL.sl _ _ _)
 · exact (cW.sl _ _ _),fun _=>rfl⟩
instance:CC aEn 6:=⟨aMb⟩
abbrev dP(e:aC):AV:= .agg [.v (.int .i64 e.Graph.Config.N),vi e.Graph.Config.L,vi e.Graph.Config.R,vl cH e.Graph.Hashes,vl aV e.Graph.Edges,vl aW e.Slots]
@[go_sem] theorem aQn(e:aC)(r:List AV):aEn e++r= .v (.int .i64 e.Graph.Config.N):: .v (.int .i64 e.Graph.Config.L):: .v (.int .i64 e.Graph.Config.R):: .sl (e.Graph.Hashes.flatMap cH) e.Graph.Hashes.length false:: .sl (e.Graph.Edges.flatMap aV) e.Graph.Edges.length false:: .sl (e.Slots.flatMap aW) e.Slots.length false::r:=rfl
theorem bMh{a0:AV}(a0h:a0.cells? =some [a0]):aAd prog 147 [(0,a0)]=some (.agg [a0]):=by
 unfold aAd;rw [bW6,underlying147];simp only [];rw [(by kernel_rfl:placesOf prog _=some [(0,1)])];simp only [];simp [nP,a0h,aVd,aVe,aRz]
theorem bMi{a0:AV}{a1:AV}{a2_Key:Int}{a2_N:Int}{a3:Int}{a4:Int}(a0h:a0.cells? =some [a0])(a1h:a1.cells? =some [a1]):aAd prog 233 [(0,a0),(1,a1),(2,.agg [.v (.int .u64 a2_Key),.v (.int .i64 a2_N)]),(3,.v (.int .i64 a3)),(4,.v (.int .i64 a4))]=some (.agg [a0,a1,.v (.int .u64 a2_Key),.v (.int .i64 a2_N),.v (.int .i64 a3),.v (.int .i64 a4)]):=by
 unfold aAd;rw [cHz,underlying233];simp only [];rw [(by kernel_rfl:placesOf prog _=some [(0,1),(1,1),(2,2),(4,1),(5,1)])];simp only [];simp [nP,a0h,a1h,aVd,aVe,aRz]
@[go_sem] theorem bDp(xs:List AV):aI prog 147 (.ptr (xs)) 0=some (.ptr xs):=by kernel_rfl
@[go_sem] theorem bDq(xs:List AV):aI prog 233 (.ptr (xs)) 0=some (.ptr xs):=by kernel_rfl
@[go_sem] theorem bDr(x0:AV)(xs:List AV):aI prog 233 (.ptr (x0::xs)) 1=some (.ptr xs):=by kernel_rfl
@[go_sem] theorem bDs(x0:AV)(x1:AV)(xs:List AV):aI prog 233 (.ptr (x0::x1::xs)) 2=some (.ptr xs):=by kernel_rfl
@[go_sem] theorem bDt(x0:AV)(x1:AV)(x2:AV)(x3:AV)(xs:List AV):aI prog 233 (.ptr (x0::x1::x2::x3::xs)) 3=some (.ptr xs):=by kernel_rfl
@[go_sem] theorem bDu(x0:AV)(x1:AV)(x2:AV)(x3:AV)(x4:AV)(xs:List AV):aI prog 233 (.ptr (x0::x1::x2::x3::x4::xs)) 4=some (.ptr xs):=by kernel_rfl
@[go_sem] theorem bIb(xs:List AV):aI prog 96 (.ptr (xs)) 0=some (.ptr xs):=by kernel_rfl
@[go_sem] theorem bDz(i o:Nat):aI prog 147 (.adr i o) 0=some (.adr i (o+0)):=by kernel_rfl
@[go_sem] theorem bE0(i o:Nat):aI prog 194 (.adr i o) 0=some (.adr i (o+0)):=by kernel_rfl
@[go_sem] theorem bE1(i o:Nat):aI prog 194 (.adr i o) 1=some (.adr i (o+1)):=by kernel_rfl
@[go_sem] theorem bIj(i o:Nat):aI prog 23 (.adr i o) 0=some (.adr i (o+0)):=by kernel_rfl
@[go_sem] theorem bJ2(i o:Nat):aI prog 30 (.adr i o) 0=some (.adr i (o+0)):=by kernel_rfl
@[go_sem] theorem bJc(i o:Nat):aI prog 30 (.adr i o) 2=some (.adr i (o+4)):=by kernel_rfl
@[go_sem] theorem bJf(i o:Nat):aI prog 33 (.adr i o) 0=some (.adr i (o+0)):=by kernel_rfl
@[go_sem] theorem bJj(i o:Nat):aI prog 33 (.adr i o) 1=some (.adr i (o+5)):=by kernel_rfl
@[go_sem] theorem bJz(i o:Nat):aI prog 61 (.adr i o) 0=some (.adr i (o+0)):=by kernel_rfl
@[go_sem] theorem bK5(i o:Nat):aI prog 61 (.adr i o) 1=some (.adr i (o+1)):=by kernel_rfl
@[go_sem] theorem bKo(i o:Nat):aI prog 96 (.adr i o) 0=some (.adr i (o+0)):=by kernel_rfl
@[go_sem] theorem bKr(i o:Nat):aI prog 96 (.adr i o) 1=some (.adr i (o+1)):=by kernel_rfl
theorem bEh(i o:Nat)(k:IntKind):lS prog 180 (.adr i o) (.v (.int k 0))=some (.adr i o):=by kernel_rfl
theorem bEj(i o:Nat)(k:IntKind):lS prog 180 (.adr i o) (.v (.int k 1))=some (.adr i (o+1)):=by kernel_rfl
attribute [go_sem] bEh bEj
@[go_sem] theorem bOd(H:aH)(x:AV)(xs:List AV):bT prog H 145 (.ptr (x::xs))=some x:=by kernel_rfl
@[go_sem] theorem bOe(H:aH)(x0:AV)(xs:List AV):bT prog H 147 (.ptr (x0::xs))=some (.agg [x0]):=by kernel_rfl
@[go_sem] theorem bOg(H:aH)(x0 x1:AV)(xs:List AV):bT prog H 180 (.ptr (x0::x1::xs))=some (.agg [x0,x1]):=by kernel_rfl
@[go_sem] theorem bOh(H:aH)(x0 x1:AV)(xs:List AV):bT prog H 194 (.ptr (x0::x1::xs))=some (.agg [x0,x1]):=by kernel_rfl
@[go_sem] theorem bSu(H:aH)(x:AV)(xs:List AV):bT prog H 28 (.ptr (x::xs))=some x:=by kernel_rfl
@[go_sem] theorem bX5(H:aH)(x:AV)(xs:List AV):bT prog H 3 (.ptr (x::xs))=some x:=by kernel_rfl
@[go_sem] theorem bT0(H:aH)(x0 x1 x2 x3 x4:AV)(xs:List AV):bT prog H 30 (.ptr (x0::x1::x2::x3::x4::xs))=some (.agg [x0,x1,x2,x3,x4]):=by kernel_rfl
@[go_sem] theorem bOm(H:aH)(x:AV)(xs:List AV):bT prog H 300 (.ptr (x::xs))=some x:=by kernel_rfl
@[go_sem] theorem bT5(H:aH)(x:AV)(xs:List AV):bT prog H 31 (.ptr (x::xs))=some x:=by kernel_rfl
@[go_sem] theorem bT9(H:aH)(x0 x1 x2 x3 x4 x5:AV)(xs:List AV):bT prog H 33 (.ptr (x0::x1::x2::x3::x4::x5::xs))=some (.agg [x0,x1,x2,x3,x4,x5]):=by kernel_rfl
@[go_sem] theorem bXc(H:aH)(x:AV)(xs:List AV):bT prog H 4 (.ptr (x::xs))=some x:=by kernel_rfl
@[go_sem] theorem bTi(H:aH)(x:AV)(xs:List AV):bT prog H 40 (.ptr (x::xs))=some x:=by kernel_rfl
@[go_sem] theorem bTr(H:aH)(x0 x1 x2:AV)(xs:List AV):bT prog H 61 (.ptr (x0::x1::x2::xs))=some (.agg [x0,x1,x2]):=by kernel_rfl
@[go_sem] theorem bU1(H:aH)(x0 x1:AV)(xs:List AV):bT prog H 96 (.ptr (x0::x1::xs))=some (.agg [x0,x1]):=by kernel_rfl
@[go_sem] theorem bN3(H:aH)(k:IntKind)(n:Int):mU prog H 3 5 (.v (.int k n))=some (.v (.int .u8 (IntKind.u8.wrap n))):=gK underlying3 underlying5
@[go_sem] theorem bDf(H:aH)(k:IntKind)(n:Int):mU prog H 3 162 (.v (.int k n))=some (.v (.int .u64 (IntKind.u64.wrap n))):=gK underlying3 underlying162
@[go_sem] theorem bDh(H:aH)(k:IntKind)(n:Int):mU prog H 3 300 (.v (.int k n))=some (.v (.int .u64 (IntKind.u64.wrap n))):=gK underlying3 underlying300
@[go_sem] theorem bDa(H:aH)(k:IntKind)(n:Int):mU prog H 162 3 (.v (.int k n))=some (.v (.int .i64 (IntKind.i64.wrap n))):=gK underlying162 underlying3
def mZ(n_0:Int):Option (ByteArray):=
 ((aS6 n_0 10).bind fun r2=>
 some r2)
theorem aA1{n_0:Int}{r:ByteArray}(hm:mZ n_0=some r):cE prog 106 [vu n_0] (.v (.string r)):=by
 refine bd 5 func106 ?_;obtain ⟨r2,h1,hm⟩:=bnd hm;refine W ?_;refine cq (bWw h1) ?_;exact E
instance:Ct prog 106 (K1 prog vu vs 106 mZ):=⟨fun hm=>aA1 hm⟩
def pF(aTm:List ByteArray):Option (ByteArray):=
 (bif ((aTm.length:Int)==0) then
  some ⟨#[110,111,110,101]⟩
 else
  ((aKj aTm ⟨#[32]⟩).bind fun r2=>
  some r2))
theorem aDx{aTm:List ByteArray}{r:ByteArray}(hm:pF aTm=some r):cE prog 107 [vl kD aTm] (.v (.string r)):=by
 refine bd 8 func107 ?_;refine W ?_;refine cm hm (fun hm=>?_) fun hm=>?_
 · exact E
 obtain ⟨r2,h1,hm⟩:=bnd hm;refine W ?_;refine cq (bLg h1) ?_;exact E
instance:Ct prog 107 (K1 prog (vl kD) vs 107 pF):=⟨fun hm=>aDx hm⟩
def aOn(rec1:ByteArray→List Int→Int→Option (ByteArray))(s_0:ByteArray)(aSv:List Int)(i_4:Int):Option (ByteArray):=
 (bif (decide (i_4<(s_0.size:Int))) then
  ((aBo s_0 i_4).bind fun b4=>
  ((aBo ⟨#[48,49,50,51,52,53,54,55,56,57,97,98,99,100,101,102]⟩ (shr .u8 b4 4)).bind fun b6=>
  ((aBo s_0 i_4).bind fun b8=>
  ((aBo ⟨#[48,49,50,51,52,53,54,55,56,57,97,98,99,100,101,102]⟩ (yU .u8 b8 15)).bind fun b10=>
  ((app aSv [b6,b10]).bind fun l12=>
  rec1 s_0 l12 (IntKind.i64.wrap (i_4+1)))))))
 else
  some (fU aSv))
def aG4:Nat→ByteArray→List Int→Int→Option (ByteArray)
 |0=>fun _ _ _=>none
 |n+1=>aOn (aG4 n)
def aIx(s_0:ByteArray):Option (ByteArray):=
 ((mkc 0 (IntKind.i64.wrap (2*(s_0.size:Int))) 0).bind fun l2=>
 aG4 aY s_0 l2 0)
theorem bAq{s_0:ByteArray}{r:ByteArray}(hm:aIx s_0=some r):cE prog 108 [.v (.string s_0)] (.v (.string r)):=by
 refine bd 30 func108 ?_;obtain ⟨l2,h1,hm⟩:=bnd hm;refine W ?_;refine aK (CFi .u8) h1 ?_;refine W ?_;refine lp (fun m s=> ∃s_0 aSv i_4,s=⟨30,(aF (aF (aF fa 0 (.v (.string s_0))) 3 (.own 1 0 aSv.length)) 4 (vi i_4)),⟨(upd aZ 1 (.cells 1 (aSv.flatMap (ci .u8)) 0)),64⟩⟩∧aG4 m s_0 aSv i_4=some r) (Lr (fun j=>bif j==1 then 67 else 0)) ?_;rintro n1 s ⟨s_0,aSv,i_4,rfl,hm⟩;refine W ?_;refine cm hm (fun hm=>?_) fun hm=>?_
 · refine W ?_;refine AWp.regD 64 mix (by kernel_rfl) (N':=192) rfl ?_;obtain ⟨b4,h3,hm⟩:=bnd hm;obtain ⟨b6,h5,hm⟩:=bnd hm;have hm:=sb hm h3;obtain ⟨b10,h9,hm⟩:=bnd hm;refine W ?_;refine aL (CFi .u8) [b6,b10] ?_;obtain ⟨l12,h11,hm⟩:=bnd hm;refine W ?_;exact Lr (fun j=>bif j==1 then 140 else 0)
 refine W ?_;refine pu rfl (aMf underlying91 underlying9 underlying5 Z1 Z3 Z6) ?_;exact E
instance:Ct prog 108 (K1 prog vs vs 108 aIx):=⟨fun hm=>bAq hm⟩
def aFl(rec1:List ByteArray→List Int→Int→Int→Option (ByteArray))(aMa:List ByteArray)(t36:List Int)(t37:Int)(t38:Int):Option (ByteArray):=
 (bif (decide (t38<t37)) then
  ((idx t36 t38).bind fun x26=>
  ((mZ x26).bind fun r28=>
  ((app aMa [r28]).bind fun l30=>
  rec1 l30 t36 t37 (IntKind.i64.wrap (t38+1)))))
 else
  ((pF aMa).bind fun r32=>
  some r32))
def vZ:Nat→List ByteArray→List Int→Int→Int→Option (ByteArray)
 |0=>fun _ _ _ _=>none
 |n+1=>aFl (vZ n)
def aFm(rec2:List ByteArray→List bG→Int→Int→Option (ByteArray))(aHz:List ByteArray)(t53:List bG)(t54:Int)(t55:Int):Option (ByteArray):=
 (bif (decide (t55<t54)) then
  ((idx t53 t55).bind fun x37=>
  ((mZ x37.x0).bind fun r39=>
  ((aUn r39 ⟨#[45]⟩).bind fun s41=>
  ((mZ x37.x1).bind fun r43=>
  ((aUn s41 r43).bind fun s45=>
  ((app aHz [s45]).bind fun l47=>
  rec2 l47 t53 t54 (IntKind.i64.wrap (t55+1))))))))
 else
  ((pF aHz).bind fun r49=>
  some r49))
def wA:Nat→List ByteArray→List bG→Int→Int→Option (ByteArray)
 |0=>fun _ _ _ _=>none
 |n+1=>aFm (wA n)
def bY(aCt:GA):Option (ByteArray):=
 ((aDj .i64 36 aCt).bind fun ⟨r5,r6⟩=>
 (bif r6 then
  (bif (r5==0) then
   some ⟨#[111,107]⟩
  else
   ((aH6 r5).bind fun r8=>
   ((aUn ⟨#[101,114,114,111,114,32]⟩ r8).bind fun s10=>
   some s10)))
 else
  ((aIr 4 aCt).bind fun ⟨r12,r13⟩=>
  (bif r13 then
   (bif r12 then
    some ⟨#[121,101,115]⟩
   else
    some ⟨#[110,111]⟩)
  else
   ((aDj .i64 3 aCt).bind fun ⟨r18,r19⟩=>
   (bif r19 then
    ((aH6 r18).bind fun r21=>
    some r21)
   else
    ((bE8 24 aCt).bind fun ⟨r23,r24⟩=>
    (bif r24 then
     vZ aY [] r23 (r23.length:Int) 0
    else
     ((bKu 157 aCt).bind fun ⟨r34,r35⟩=>
     (bif r35 then
      wA aY [] r34 (r34.length:Int) 0
     else
      ((bA8 9 aCt).bind fun ⟨r54,r55⟩=>
      (bif r55 then
       ((aIx r54).bind fun r57=>
       some r57)
      else
       some ⟨#[]⟩))))))))))))
theorem aCw{aCt:GA}{r:ByteArray}(hm:bY aCt=some r):cE prog 59 [GA.av aCt] (.v (.string r)):=by
 refine bd 78 func59 ?_;refine W ?_;obtain ⟨⟨r5,r6⟩,h4,hm⟩:=bnd hm;refine pu rfl (aZh underlying36 bZz cHs Z1 h4) ?_;refine W ?_;refine cm hm (fun hm=>?_) fun hm=>?_
 ·
  refine W ?_;refine cm hm (fun hm=>?_) fun hm=>?_
  · exact E
  obtain ⟨r8,h7,hm⟩:=bnd hm;refine W ?_;refine cq (aXj h7) ?_;obtain ⟨s10,h9,hm⟩:=bnd hm;exact E
 refine W ?_;obtain ⟨⟨r12,r13⟩,h11,hm⟩:=bnd hm;refine pu rfl (bHh underlying4 in4 tz4 Z1 h11) ?_;refine W ?_;refine cm hm (fun hm=>?_) fun hm=>?_
 ·
  refine W ?_;refine cm hm (fun hm=>?_) fun hm=>?_
  · exact E
  exact E
 refine W ?_;obtain ⟨⟨r18,r19⟩,h17,hm⟩:=bnd hm;refine pu rfl (aZh underlying3 in3 tz3 Z1 h17) ?_;refine W ?_;refine cm hm (fun hm=>?_) fun hm=>?_
 · obtain ⟨r21,h20,hm⟩:=bnd hm;refine W ?_;refine cq (aXj h20) ?_;exact E
 refine W ?_;obtain ⟨⟨r23,r24⟩,h22,hm⟩:=bnd hm;refine aR.pop Zd (aSs Z1 (GA.data _)) (bPo underlying24 bZx cHq Z1 h22) rfl ?_;refine W ?_;refine cm hm (fun hm=>?_) fun hm=>?_
 ·
  refine W ?_;refine lp (fun m s=> ∃aMa t36 t37 t38,s=⟨78,(aF (aF (aF (aF fa 7 (.own 1 0 aMa.length)) 36 (vl (ci .u64) t36)) 37 (vi t37)) 38 (vi t38)),⟨(upd aZ 1 (.cells 1 (aMa.flatMap kD) 0)),64⟩⟩∧vZ m aMa t36 t37 t38=some r) ?_ ?_
  · refine ⟨_,?_,[],r23,(r23.length:Int),0,rfl,hm⟩;refine St.Le.trans (aC2 7 900007 1 Z1 Z5) ?_;exact cn (fun j=>bif j==1 then 900007 else 0)
  rintro n1 s ⟨aMa,t36,t37,t38,rfl,hm⟩;refine W ?_;refine cm hm (fun hm=>?_) fun hm=>?_
  · obtain ⟨x26,h25,hm⟩:=bnd hm;obtain ⟨r28,h27,hm⟩:=bnd hm;refine W ?_;refine cq (aA1 h27) ?_;refine aL CFs [r28] ?_;obtain ⟨l30,h29,hm⟩:=bnd hm;refine W ?_;exact Lr (fun j=>bif j==1 then 196 else 0)
  obtain ⟨r32,h31,hm⟩:=bnd hm;refine W ?_;refine aR.callB (r:= .v (.string r32)) Zd Z1 bVc (.cons (lto CFs Z1 Z3 Z6) aTu.nil) bQ1 (aDx h31) ?_;exact E
 refine W ?_;obtain ⟨⟨r34,r35⟩,h33,hm⟩:=bnd hm;refine aR.pop Zd (aSs Z1 (GA.data _)) (bPn underlying157 bVm bW1 Z1 h33) rfl ?_;refine W ?_;refine cm hm (fun hm=>?_) fun hm=>?_
 ·
  refine W ?_;refine lp (fun m s=> ∃aHz t53 t54 t55,s=⟨78,(aF (aF (aF (aF fa 11 (.own 1 0 aHz.length)) 53 (vl iY t53)) 54 (vi t54)) 55 (vi t55)),⟨(upd aZ 1 (.cells 1 (aHz.flatMap kD) 0)),64⟩⟩∧wA m aHz t53 t54 t55=some r) ?_ ?_
  · refine ⟨_,?_,[],r34,(r34.length:Int),0,rfl,hm⟩;refine St.Le.trans (aC2 11 900011 1 Z1 Z5) ?_;exact cn (fun j=>bif j==1 then 900011 else 0)
  rintro n2 s ⟨aHz,t53,t54,t55,rfl,hm⟩;refine W ?_;refine cm hm (fun hm=>?_) fun hm=>?_
  · obtain ⟨x37,h36,hm⟩:=bnd hm;refine W ?_;refine AWp.regD 64 mix (by kernel_rfl) (N':=256) rfl ?_;obtain ⟨r39,h38,hm⟩:=bnd hm;refine W ?_;refine cq (aA1 h38) ?_;obtain ⟨s41,h40,hm⟩:=bnd hm;obtain ⟨r43,h42,hm⟩:=bnd hm;refine W ?_;refine cq (aA1 h42) ?_;obtain ⟨s45,h44,hm⟩:=bnd hm;refine W ?_;refine aL CFs [s45] ?_;obtain ⟨l47,h46,hm⟩:=bnd hm;refine W ?_;exact Lr (fun j=>bif j==1 then 202 else 0)
  obtain ⟨r49,h48,hm⟩:=bnd hm;refine W ?_;refine aR.callB (r:= .v (.string r49)) Zd Z1 bVc (.cons (lto CFs Z1 Z3 Z6) aTu.nil) bQ1 (aDx h48) ?_;exact E
 refine W ?_;obtain ⟨⟨r54,r55⟩,h53,hm⟩:=bnd hm;refine pu rfl (bM9 underlying9 in9 tz9 Z1 h53) ?_;refine W ?_;refine cm hm (fun hm=>?_) fun hm=>?_
 · obtain ⟨r57,h56,hm⟩:=bnd hm;refine W ?_;refine cq (bAq h56) ?_;exact E
 exact E
instance:Ct prog 59 (K1 prog GA.av vs 59 bY):=⟨fun hm=>aCw hm⟩
def lT(dF:ByteArray):Option (Int×Int):=
 (bif (decide (dF=⟨#[110,101,119]⟩)) then
  some ((-1),3)
 else
  (bif (decide (dF=⟨#[112,108,97,110]⟩)) then
   some ((-2),3)
  else
   (bif (decide (dF=⟨#[118,101,114,116,101,120]⟩)) then
    some (1,1)
   else
    (bif (decide (dF=⟨#[100,114,111,112]⟩)) then
     some (2,1)
    else
     (bif (decide (dF=⟨#[101,100,103,101]⟩)) then
      some (3,2)
     else
      (bif (decide (dF=⟨#[99,117,116]⟩)) then
       some (4,2)
      else
       (bif (decide (dF=⟨#[104,97,115]⟩)) then
        some (5,2)
       else
        (bif (decide (dF=⟨#[100,101,103,114,101,101]⟩)) then
         some (6,1)
        else
         (bif (decide (dF=⟨#[110,101,97,114]⟩)) then
          some (7,1)
         else
          (bif (decide (dF=⟨#[99,111,110,110,101,99,116,101,100]⟩)) then
           some (8,2)
          else
           (bif (decide (dF=⟨#[115,105,122,101]⟩)) then
            some (9,1)
           else
            (bif (decide (dF=⟨#[99,111,117,110,116]⟩)) then
             some (10,0)
            else
             (bif (decide (dF=⟨#[109,101,109,98,101,114,115]⟩)) then
              some (11,1)
             else
              (bif (decide (dF=⟨#[102,111,114,101,115,116]⟩)) then
               some (12,0)
              else
               (bif (decide (dF=⟨#[97,117,100,105,116]⟩)) then
                some (13,0)
               else
                (bif (decide (dF=⟨#[115,97,118,101]⟩)) then
                 some (14,0)
                else
                 (bif (decide (dF=⟨#[114,101,115,116,111,114,101]⟩)) then
                  some (15,1)
                 else
                  some (0,0))))))))))))))))))
theorem aQy:K1 prog vs (t2 vi vi) 60 lT:=fun hm=>be 39 func60 (h:=G)
instance:Ct prog 60 (K1 prog vs (t2 vi vi) 60 lT):=⟨aQy⟩
def aBg(rec1:ByteArray→List Int→Int→Option (ByteArray×Int))(dF:ByteArray)(aEv:List Int)(i_5:Int):Option (ByteArray×Int):=
 (bif (decide (i_5<(dF.size:Int))) then
  ((aBo dF i_5).bind fun b4=>
  ((qE ⟨#[48,49,50,51,52,53,54,55,56,57,97,98,99,100,101,102]⟩ b4).bind fun r6=>
  ((aBo dF (IntKind.i64.wrap (i_5+1))).bind fun b8=>
  ((qE ⟨#[48,49,50,51,52,53,54,55,56,57,97,98,99,100,101,102]⟩ b8).bind fun r10=>
  (bif ((decide (r6<0))||(decide (r10<0))) then
   some (⟨#[]⟩,2)
  else
   ((app aEv [(IntKind.u8.wrap (bor .i64 (shl .i64 r6 4) r10))]).bind fun l12=>
   rec1 dF l12 (IntKind.i64.wrap (i_5+2))))))))
 else
  some ((fU aEv),0))
def sY:Nat→ByteArray→List Int→Int→Option (ByteArray×Int)
 |0=>fun _ _ _=>none
 |n+1=>aBg (sY n)
def sZ(dF:ByteArray):Option (ByteArray×Int):=
 (bif ((Int.tmod (dF.size:Int) 2) !=0) then
  some (⟨#[]⟩,2)
 else
  ((mkc 0 (IntKind.i64.wrap (Int.tdiv (dF.size:Int) 2)) 0).bind fun l2=>
  sY aY dF l2 0))
theorem bEq{dF:ByteArray}{r:ByteArray×Int}(hm:sZ dF=some r):cE prog 61 [.v (.string dF)] (.tup [.v (.string r.1),vi r.2]):=by
 refine bd 47 func61 ?_;refine W ?_;refine cm hm (fun hm=>?_) fun hm=>?_
 · exact E
 obtain ⟨l2,h1,hm⟩:=bnd hm;refine W ?_;refine aK (CFi .u8) h1 ?_;refine W ?_;refine lp (fun m s=> ∃dF aEv i_5,s=⟨47,(aF (aF (aF fa 0 (.v (.string dF))) 4 (.own 1 0 aEv.length)) 5 (vi i_5)),⟨(upd aZ 1 (.cells 1 (aEv.flatMap (ci .u8)) 0)),64⟩⟩∧sY m dF aEv i_5=some r) (Lr (fun j=>bif j==1 then 131 else 0)) ?_;rintro n1 s ⟨dF,aEv,i_5,rfl,hm⟩;refine W ?_;refine cm hm (fun hm=>?_) fun hm=>?_
 ·
  obtain ⟨b4,h3,hm⟩:=bnd hm;obtain ⟨r6,h5,hm⟩:=bnd hm;refine W ?_;refine cq (aIs h5) ?_;obtain ⟨b8,h7,hm⟩:=bnd hm;obtain ⟨r10,h9,hm⟩:=bnd hm;refine W ?_;refine cq (aIs h9) ?_;refine W ?_;refine cm hm (fun hm=>?_) fun hm=>?_
  · exact E
  refine W ?_;refine aL (CFi .u8) [(IntKind.u8.wrap (bor .i64 (shl .i64 r6 4) r10))] ?_;obtain ⟨l12,h11,hm⟩:=bnd hm;refine W ?_;exact Lr (fun j=>bif j==1 then 327 else 0)
 refine W ?_;refine pu rfl (aMf underlying91 underlying9 underlying5 Z1 Z3 Z6) ?_;exact E
instance:Ct prog 61 (K1 prog vs (t2 vs vi) 61 sZ):=⟨fun hm=>bEq hm⟩
def rC(n_0:Int):Option (Bool):=
 some ((decide (1≤n_0))&&(decide (n_0≤1024)))
theorem aZ1:K1 prog vi vb 76 rC:=fun hm=>be 9 func76 (h:=G)
instance:Ct prog 76 (K1 prog vi vb 76 rC):=⟨aZ1⟩
def kI(s_0:aB):Option (Int):=
 (bif (!s_0.nn) then
  some 0
 else
  ((chk s_0.nn).bind fun _=>
  some s_0.size))
theorem uY:K1 prog aB.av vi 156 kI:=fun hm=>be 9 func156 (h:=G)
instance:Ct prog 156 (K1 prog aB.av vi 156 kI):=⟨uY⟩
def aHs(rec1:aB→Int→bS→Option (bS×Bool))(s_0:aB)(i_1:Int)(t4:bS):Option (bS×Bool):=
 ((chk s_0.nn).bind fun _=>
 ((kI s_0.ahead).bind fun r5=>
 (bif (decide (i_1<r5)) then
  ((chk s_0.nn).bind fun _=>
  rec1 s_0.ahead i_1 t4)
 else
  (bif (decide (r5<i_1)) then
   ((chk s_0.nn).bind fun _=>
   rec1 s_0.behind (IntKind.i64.wrap (i_1-(IntKind.i64.wrap (r5+1)))) t4)
  else
   ((chk s_0.nn).bind fun _=>
   some (s_0.thing,true))))))
def aA2:Nat→aB→Int→bS→Option (bS×Bool)
 |0=>fun _ _ _=>none
 |n+1=>aHs (aA2 n)
def qH(s_0:aB)(i_1:Int):Option (bS×Bool):=
 ((eJ ((decide (i_1<0))==false) 0 (kI s_0)).bind fun r2=>
 (bif ((decide (i_1<0))||(decide (r2≤i_1))) then
  some ((bS.mk 0 0),false)
 else
  aA2 aY s_0 i_1 (bS.mk 0 0)))
theorem aF0:K2 prog aB.av vi (t2 aEd vb) 119 qH:=by
 intro s_0 i_1 r hm
 let I1:=((fun m s=> ∃s_0 i_1 t4,s=⟨46,(aF (aF (aF fa 0 (aB.av s_0)) 1 (vi i_1)) 4 (.adr 1 0)),⟨(upd aZ 1 (.cells 1 [vu t4.Key,vi t4.N] 0)),64⟩⟩∧aA2 m s_0 i_1 t4=some r):Nat→St→Prop)
 exact be 46 func119 (h:=G)
instance:Ct prog 119 (K2 prog aB.av vi (t2 aEd vb) 119 qH):=⟨aF0⟩
def zE(i_0:Int)(t1:cC)(t2:Int):Option (Bool):=
 ((qH t1.s i_0).bind fun ⟨r2,r3⟩=>
 some (decide (t2≤r2.Key)))
theorem aX0{i_0:Int}{t1:cC}{t2:Int}{r:Bool}(hm:zE i_0 t1 t2=some r):cE prog 158 [vi i_0,.ptr [aB.av t1.s],.ptr [vu t2]] (vb r):=by
 refine bd 18 func158 ?_;refine W ?_;obtain ⟨⟨r2,r3⟩,h1,hm⟩:=bnd hm;refine cq (aF0 h1) ?_;exact E
def aFp(f_1:(Int→Option (Bool)))(rec1:Int→Int→Option (Int))(i_5:Int)(j_6:Int):Option (Int):=
 (bif (decide (i_5<j_6)) then
  ((f_1 (IntKind.i64.wrap (shr .u64 (IntKind.u64.wrap (IntKind.i64.wrap (i_5+j_6))) 1))).bind fun r2=>
  (bif (!r2) then
   rec1 (IntKind.i64.wrap ((IntKind.i64.wrap (shr .u64 (IntKind.u64.wrap (IntKind.i64.wrap (i_5+j_6))) 1))+1)) j_6
  else
   rec1 i_5 (IntKind.i64.wrap (shr .u64 (IntKind.u64.wrap (IntKind.i64.wrap (i_5+j_6))) 1))))
 else
  some i_5)
def wJ(f_1:(Int→Option (Bool))):Nat→Int→Int→Option (Int)
 |0=>fun _ _=>none
 |n+1=>aFp f_1 (wJ f_1 n)
def aHv(n_0:Int)(f_1:(Int→Option (Bool))):Option (Int):=
 wJ f_1 aY 0 n_0
theorem aYu{n_0:Int}{f_1:(Int→Option (Bool))}{r:Int}(hm:aHv n_0 f_1=some r){aMx:FuncId}{aCh:List AV}(aS8: ∀a,a∈aCh→AM.Data a)(bEa:(Program.funcs prog)[aMx]?.any (fun fn=>fn.body.isSome&&fn.name != "runtime.NumGoroutine")=true)(bEb: ∀ {x0 r},f_1 x0=some r→cE prog aMx ([vi x0]++aCh) (vb r)):cE prog 157 [vi n_0,.clo (.func aMx) [] aCh] (vi r):=by
 refine bd 26 func157 ?_;refine W ?_;refine lp (fun m s=> ∃i_5 j_6,s=⟨26,(aF (aF (aF fa 1 (.clo (.func aMx) [] aCh)) 5 (vi i_5)) 6 (vi j_6)),⟨aZ,64⟩⟩∧wJ f_1 m i_5 j_6=some r) L ?_;rintro n1 s ⟨i_5,j_6,rfl,hm⟩;refine W ?_;refine cm hm (fun hm=>?_) fun hm=>?_
 ·
  obtain ⟨r2,h1,hm⟩:=bnd hm;refine W ?_;refine aR.callQC (r:= .v (.bool r2)) Zd Z1 aS8 bEa (fun H=>(cV .nil)) (bEb h1) ?_;refine W ?_;refine cm hm (fun hm=>?_) fun hm=>?_
  · exact L
  exact L
 exact E
def aAj(d_0:cC)(jY:Int):Option (Int):=
 ((kI d_0.s).bind fun r2=>
 ((aHv r2 (fun x0=>zE x0 d_0 jY)).bind fun r4=>
 some r4))
theorem aS2{d_0:cC}{jY:Int}{r:Int}(hm:aAj d_0 jY=some r):cE prog 120 [.agg [aB.av d_0.s],vu jY] (vi r):=by
 refine bd 10 func120 ?_;refine S1 ?_;refine aR.pop Zd (aSs Z1 (.agg _ (aEh.dat d_0))) (aYa (ys:=[aB.av d_0.s]) Z1 (fun H=>(.cons (.data _ (aB.data d_0.s)) .nil))) rfl ?_;refine aR.pop Zd (aSs Z1 (.v _)) (aYa (ys:=[.v (.int .u64 jY)]) Z1 (fun H=>(.cons (.data _ (.v _)) .nil))) rfl ?_;obtain ⟨r2,h1,hm⟩:=bnd hm;refine W ?_;refine cq (uY h1) ?_;obtain ⟨r4,h3,hm⟩:=bnd hm;refine W ?_;refine aR.callQ (r:= .v (.int .i64 r4)) Zd Z1 bZd (fun H=>(cV (.cons (td Z1 (bN7 (sH (.ptr _ (aEh.dat d_0)) (sH (.ptr _ ((CFi .u64).dat jY)) aLk)))) .nil))) (aYu h3 (sH (.ptr _ (aEh.dat d_0)) (sH (.ptr _ ((CFi .u64).dat jY)) aLk)) bZe (fun h=>aX0 h)) ?_;exact E
instance:Ct prog 120 (K2 prog xS vu vi 120 aAj):=⟨fun hm=>aS2 hm⟩
def xX(d_0:cC)(jY:Int):Option (Int×Bool):=
 ((aAj d_0 jY).bind fun r2=>
 ((qH d_0.s r2).bind fun ⟨r4,r5⟩=>
 (bif ((!r5)||(r4.Key !=jY)) then
  some (0,false)
 else
  some (r4.N,true))))
theorem aOg:K2 prog xS vu (t2 vi vb) 79 xX:=fun hm=>be 27 func79 (h:=G)
instance:Ct prog 79 (K2 prog xS vu (t2 vi vb) 79 xX):=⟨aOg⟩
def dD(s_0:aB):Option (Int):=
 (bif (!s_0.nn) then
  some 0
 else
  ((chk s_0.nn).bind fun _=>
  some s_0.height))
theorem lU:K1 prog aB.av vi 236 dD:=fun hm=>be 9 func236 (h:=G)
instance:Ct prog 236 (K1 prog aB.av vi 236 dD):=⟨lU⟩
def eQ(bX:aB)(fX:bS)(bL:aB):Option (aB):=
 ((dD bX).bind fun r2=>
 ((dD bL).bind fun r4=>
 ((kI bX).bind fun r6=>
 ((kI bL).bind fun r8=>
 some (aB.mk bX bL fX (IntKind.i64.wrap ((if r2<r4 then r4 else r2)+1)) (IntKind.i64.wrap ((IntKind.i64.wrap (r6+1))+r8)))))))
theorem aFo{bX:aB}{fX:bS}{bL:aB}{r:aB}(hm:eQ bX fX bL=some r):cE prog 192 [aB.av bX,.agg [vu fX.Key,vi fX.N],aB.av bL] (aB.av r):=by
 refine bd 24 func192 ?_;obtain ⟨r2,h1,hm⟩:=bnd hm;refine W ?_;refine cq (lU h1) ?_;obtain ⟨r4,h3,hm⟩:=bnd hm;refine W ?_;refine cq (lU h3) ?_;obtain ⟨r6,h5,hm⟩:=bnd hm;refine W ?_;refine cq (uY h5) ?_;obtain ⟨r8,h7,hm⟩:=bnd hm;refine W ?_;refine cq (uY h7) ?_;refine W ?_;refine pu rfl (by simp only [go_sem,Nat.reduceBEq];exact bMi (aB.cells _) (aB.cells _)) ?_;refine aR.pop Zd (aSs Z1 (.agg _ (sH (aB.data bX) (sH (aB.data bL) (sH (.v _) (sH (.v _) (sH (.v _) (sH (.v _) aLk)))))))) (aYa (ys:=[aB.av ((aB.mk bX bL fX (IntKind.i64.wrap ((if r2<r4 then r4 else r2)+1)) (IntKind.i64.wrap ((IntKind.i64.wrap (r6+1))+r8))).ahead),aB.av ((aB.mk bX bL fX (IntKind.i64.wrap ((if r2<r4 then r4 else r2)+1)) (IntKind.i64.wrap ((IntKind.i64.wrap (r6+1))+r8))).behind),.v (.int .u64 (((aB.mk bX bL fX (IntKind.i64.wrap ((if r2<r4 then r4 else r2)+1)) (IntKind.i64.wrap ((IntKind.i64.wrap (r6+1))+r8))).thing).Key)),.v (.int .i64 (((aB.mk bX bL fX (IntKind.i64.wrap ((if r2<r4 then r4 else r2)+1)) (IntKind.i64.wrap ((IntKind.i64.wrap (r6+1))+r8))).thing).N)),.v (.int .i64 ((aB.mk bX bL fX (IntKind.i64.wrap ((if r2<r4 then r4 else r2)+1)) (IntKind.i64.wrap ((IntKind.i64.wrap (r6+1))+r8))).height)),.v (.int .i64 ((aB.mk bX bL fX (IntKind.i64.wrap ((if r2<r4 then r4 else r2)+1)) (IntKind.i64.wrap ((IntKind.i64.wrap (r6+1))+r8))).size))]) Z1 (fun H=>(.cons (.data _ (aB.data bX)) (.cons (.data _ (aB.data bL)) (.cons (.data _ (.v _)) (.cons (.data _ (.v _)) (.cons (.data _ (.v _)) (.cons (.data _ (.v _)) .nil)))))))) rfl ?_;exact E
instance:Ct prog 192 (K3 prog aB.av aEd aB.av aB.av 192 eQ):=⟨fun hm=>aFo hm⟩
def nN(bX:aB)(fX:bS)(bL:aB):Option (aB):=
 ((dD bX).bind fun r2=>
 ((dD bL).bind fun r4=>
 (bif (decide ((IntKind.i64.wrap (r4+1))<r2)) then
  ((chk bX.nn).bind fun _=>
  ((dD bX.ahead).bind fun r7=>
  ((chk bX.nn).bind fun _=>
  ((dD bX.behind).bind fun r10=>
  (bif (decide (r10≤r7)) then
   ((chk bX.nn).bind fun _=>
   ((chk bX.nn).bind fun _=>
   ((chk bX.nn).bind fun _=>
   ((eQ bX.behind fX bL).bind fun r15=>
   ((eQ bX.ahead bX.thing r15).bind fun r17=>
   some r17)))))
  else
   ((chk bX.nn).bind fun _=>
   ((chk bX.nn).bind fun _=>
   ((chk bX.nn).bind fun _=>
   ((chk bX.behind.nn).bind fun _=>
   ((eQ bX.ahead bX.thing bX.behind.ahead).bind fun r23=>
   ((chk bX.behind.nn).bind fun _=>
   ((chk bX.behind.nn).bind fun _=>
   ((eQ bX.behind.behind fX bL).bind fun r27=>
   ((eQ r23 bX.behind.thing r27).bind fun r29=>
   some r29))))))))))))))
 else
  ((dD bL).bind fun r31=>
  ((dD bX).bind fun r33=>
  (bif (decide ((IntKind.i64.wrap (r33+1))<r31)) then
   ((chk bL.nn).bind fun _=>
   ((dD bL.behind).bind fun r36=>
   ((chk bL.nn).bind fun _=>
   ((dD bL.ahead).bind fun r39=>
   (bif (decide (r39≤r36)) then
    ((chk bL.nn).bind fun _=>
    ((eQ bX fX bL.ahead).bind fun r42=>
    ((chk bL.nn).bind fun _=>
    ((chk bL.nn).bind fun _=>
    ((eQ r42 bL.thing bL.behind).bind fun r46=>
    some r46)))))
   else
    ((chk bL.nn).bind fun _=>
    ((chk bL.ahead.nn).bind fun _=>
    ((eQ bX fX bL.ahead.ahead).bind fun r50=>
    ((chk bL.ahead.nn).bind fun _=>
    ((chk bL.ahead.nn).bind fun _=>
    ((chk bL.nn).bind fun _=>
    ((chk bL.nn).bind fun _=>
    ((eQ bL.ahead.behind bL.thing bL.behind).bind fun r56=>
    ((eQ r50 bL.ahead.thing r56).bind fun r58=>
    some r58))))))))))))))
  else
   ((eQ bX fX bL).bind fun r60=>
   some r60)))))))
theorem aC8:K3 prog aB.av aEd aB.av aB.av 237 nN:=fun hm=>be 139 func237 (h:=G)
instance:Ct prog 237 (K3 prog aB.av aEd aB.av aB.av 237 nN):=⟨aC8⟩
def rG(recf:aB→bS→aB→Option (aB))(bX:aB)(fX:bS)(bL:aB):Option (aB):=
 ((dD bX).bind fun r2=>
 ((dD bL).bind fun r4=>
 (bif (decide ((IntKind.i64.wrap (r4+1))<r2)) then
  ((chk bX.nn).bind fun _=>
  ((chk bX.nn).bind fun _=>
  ((chk bX.nn).bind fun _=>
  ((recf bX.behind fX bL).bind fun r9=>
  ((nN bX.ahead bX.thing r9).bind fun r11=>
  some r11)))))
 else
  ((dD bL).bind fun r13=>
  ((dD bX).bind fun r15=>
  (bif (decide ((IntKind.i64.wrap (r15+1))<r13)) then
   ((chk bL.nn).bind fun _=>
   ((recf bX fX bL.ahead).bind fun r18=>
   ((chk bL.nn).bind fun _=>
   ((chk bL.nn).bind fun _=>
   ((nN r18 bL.thing bL.behind).bind fun r22=>
   some r22)))))
  else
   ((eQ bX fX bL).bind fun r24=>
   some r24)))))))
def nM:Nat→aB→bS→aB→Option (aB)
 |0=>fun _ _ _=>none
 |n+1=>rG (nM n)
def rH(bX:aB)(fX:bS)(bL:aB):Option (aB):=nM aY bX fX bL
theorem aP2: ∀(nn:Nat) {bX:aB} {fX:bS} {bL:aB} {r:aB} (hm:nM nn bX fX bL=some r),cE prog 191 [aB.av bX,.agg [.v (.int .u64 fX.Key),.v (.int .i64 fX.N)],aB.av bL] (aB.av r):=by
 intro nn
 induction nn with
 |zero=>
  intro bX fX bL r hm;replace hm:none=some r:=hm;cases hm
 |succ nn ih=>
  intro bX fX bL r hm;replace hm:rG (nM nn) bX fX bL=some r:=hm;refine cE.of_body func191 rfl ?_;simp only [ntmps191,List.length_cons,List.length_nil,Nat.reduceAdd,Nat.reduceSub,iO];unfold rG at hm;refine sN 64 (hp (id:=0) rfl rfl (aV7 Z1 Z5) ?_);refine pA ?_;refine fs (AWp.seq' (AWp.block (sN 128 (pA ?_))));obtain ⟨r2,h1,hm⟩:=bnd hm;refine aR.callQ (r:= .v (.int .i64 r2)) Zd Z1 bG4 (fun H=>(cD (aB.data _) .nil)) (lU h1) ?_;refine pA ?_;obtain ⟨r4,h3,hm⟩:=bnd hm;refine aR.callQ (r:= .v (.int .i64 r4)) Zd Z1 bG4 (fun H=>(cD (aB.data _) .nil)) (lU h3) ?_
  iterate 3 refine pA ?_
  refine fs (AWp.condM hm Z1 (fun _ hm=>?_) (fun _ hm=>?_))
  ·
   refine sd mix (by kernel_rfl) (N':=192) rfl ?_;refine pA ?_;obtain ⟨_,h5,hm⟩:=bnd hm;refine pu rfl (yR Z1 (aB.av_nn (vL h5))) ?_
   iterate 3 refine pA ?_
   obtain ⟨_,h6,hm⟩:=bnd hm;refine pu rfl (yR Z1 (aB.av_nn (vL h6))) ?_
   iterate 3 refine pA ?_
   obtain ⟨_,h7,hm⟩:=bnd hm;refine pu rfl (yR Z1 (aB.av_nn (vL h7))) ?_
   iterate 2 refine pA ?_
   refine pu rfl (hZ Z1 Z3 Z2) ?_;refine pA ?_;obtain ⟨r9,h8,hm⟩:=bnd hm;refine aR.callQ (r:=aB.av r9) Zd Z1 bG3 (fun H=>(cD (aB.data _) (cD (.agg _ (iM.dat _)) (cD (aB.data _) .nil)))) (ih h8) ?_;obtain ⟨r11,h10,hm⟩:=bnd hm;refine aR.callQ (r:=aB.av r11) Zd Z1 bVi (fun H=>(cD (aB.data _) (cD (.agg _ (iM.dat _)) (cD (aB.data _) .nil)))) (aC8 h10) ?_;refine pA ?_;refine fs (AWp.ret (sI (jC ?_)));cases hm;exact aNg (.inr rfl) Tryz.results191 (td Z1 (aB.data _))
  ·
   refine sN 192 (pA ?_);obtain ⟨r13,h12,hm⟩:=bnd hm;refine aR.callQ (r:= .v (.int .i64 r13)) Zd Z1 bG4 (fun H=>(cD (aB.data _) .nil)) (lU h12) ?_;refine pA ?_;obtain ⟨r15,h14,hm⟩:=bnd hm;refine aR.callQ (r:= .v (.int .i64 r15)) Zd Z1 bG4 (fun H=>(cD (aB.data _) .nil)) (lU h14) ?_
   iterate 3 refine pA ?_
   refine fs (AWp.condM hm Z1 (fun _ hm=>?_) (fun _ hm=>?_))
   ·
    refine sd mix (by kernel_rfl) (N':=256) rfl ?_;refine pA ?_;refine pu rfl (hZ Z1 Z3 Z2) ?_;refine pA ?_;obtain ⟨_,h16,hm⟩:=bnd hm;refine pu rfl (yR Z1 (aB.av_nn (vL h16))) ?_
    iterate 2 refine pA ?_
    obtain ⟨r18,h17,hm⟩:=bnd hm;refine aR.callQ (r:=aB.av r18) Zd Z1 bG3 (fun H=>(cD (aB.data _) (cD (.agg _ (iM.dat _)) (cD (aB.data _) .nil)))) (ih h17) ?_;refine pA ?_;obtain ⟨_,h19,hm⟩:=bnd hm;refine pu rfl (yR Z1 (aB.av_nn (vL h19))) ?_
    iterate 3 refine pA ?_
    obtain ⟨_,h20,hm⟩:=bnd hm;refine pu rfl (yR Z1 (aB.av_nn (vL h20))) ?_
    iterate 2 refine pA ?_
    obtain ⟨r22,h21,hm⟩:=bnd hm;refine aR.callQ (r:=aB.av r22) Zd Z1 bVi (fun H=>(cD (aB.data _) (cD (.agg _ (iM.dat _)) (cD (aB.data _) .nil)))) (aC8 h21) ?_;refine pA ?_;refine fs (AWp.ret (sI (jC ?_)));cases hm;exact aNg (.inr rfl) Tryz.results191 (td Z1 (aB.data _))
   · refine AWp.skip (jP (bQ (sN 256 (pA ?_))));refine pu rfl (hZ Z1 Z3 Z2) ?_;refine pA ?_;obtain ⟨r24,h23,hm⟩:=bnd hm;refine aR.callQ (r:=aB.av r24) Zd Z1 bVg (fun H=>(cD (aB.data _) (cD (.agg _ (iM.dat _)) (cD (aB.data _) .nil)))) (aFo h23) ?_;refine pA ?_;refine fs (AWp.ret ?_);cases hm;exact aNg (.inr rfl) Tryz.results191 (td Z1 (aB.data _))
theorem aC7{bX:aB}{fX:bS}{bL:aB}{r:aB}(hm:rH bX fX bL=some r):cE prog 191 [aB.av bX,.agg [.v (.int .u64 fX.Key),.v (.int .i64 fX.N)],aB.av bL] (aB.av r):=aP2 aY hm
def tO(recf:aB→Int→Option (aB×aB))(s_0:aB)(aBx:Int):Option (aB×aB):=
 (bif (decide (aBx≤0)) then
  some (aB.nil,s_0)
 else
  ((kI s_0).bind fun r2=>
  (bif (decide (r2≤aBx)) then
   some (s_0,aB.nil)
  else
   ((chk s_0.nn).bind fun _=>
   ((kI s_0.ahead).bind fun r5=>
   (bif (decide (aBx≤r5)) then
    ((chk s_0.nn).bind fun _=>
    ((recf s_0.ahead aBx).bind fun ⟨r8,r9⟩=>
    ((chk s_0.nn).bind fun _=>
    ((chk s_0.nn).bind fun _=>
    ((rH r9 s_0.thing s_0.behind).bind fun r13=>
    some (r8,r13))))))
   else
    ((chk s_0.nn).bind fun _=>
    ((recf s_0.behind (IntKind.i64.wrap ((IntKind.i64.wrap (aBx-r5))-1))).bind fun ⟨r16,r17⟩=>
    ((chk s_0.nn).bind fun _=>
    ((chk s_0.nn).bind fun _=>
    ((rH s_0.ahead s_0.thing r16).bind fun r21=>
    some (r21,r17))))))))))))
def pO:Nat→aB→Int→Option (aB×aB)
 |0=>fun _ _=>none
 |n+1=>tO (pO n)
def tP(s_0:aB)(aBx:Int):Option (aB×aB):=pO aY s_0 aBx
theorem aR3: ∀(nn:Nat) {s_0:aB} {aBx:Int} {r:aB×aB} (hm:pO nn s_0 aBx=some r),cE prog 153 [aB.av s_0,.v (.int .i64 aBx)] (.tup [aB.av r.1,aB.av r.2]):=by
 intro nn
 induction nn with
 |zero=>
  intro s_0 aBx r hm;replace hm:none=some r:=hm;cases hm
 |succ nn ih=>
  intro s_0 aBx r hm;replace hm:tO (pO nn) s_0 aBx=some r:=hm;refine cE.of_body func153 rfl ?_;simp only [ntmps153,List.length_cons,List.length_nil,Nat.reduceAdd,Nat.reduceSub,iO];unfold tO at hm;refine sN 64 ?_
  iterate 2 refine pA ?_
  refine fs (AWp.seq' (sN 128 ?_))
  iterate 2 refine pA ?_
  refine fs (AWp.condM hm Z1 (fun _ hm=>?_) (fun _ hm=>?_))
  ·
   refine sN 192 ?_
   iterate 3 refine pA ?_
   refine fs (AWp.ret (jC ?_));cases hm;exact aGg (.inr rfl) Tryz.results153 (td Z1 (aB.data _)) (td Z1 (aB.data _))
  ·
   refine AWp.skip (bQ (AWp.seq' (sN 192 ?_)))
   iterate 2 refine pA ?_
   obtain ⟨r2,h1,hm⟩:=bnd hm;refine aR.callQ (r:= .v (.int .i64 r2)) Zd Z1 bVf (fun H=>(cD (aB.data _) .nil)) (uY h1) ?_;refine pA ?_;refine fs (AWp.condM hm Z1 (fun _ hm=>?_) (fun _ hm=>?_))
   ·
    refine sN 256 ?_
    iterate 3 refine pA ?_
    refine fs (AWp.ret (jC ?_));cases hm;exact aGg (.inr rfl) Tryz.results153 (td Z1 (aB.data _)) (td Z1 (aB.data _))
   ·
    refine AWp.skip (bQ (sN 256 (pA ?_)));obtain ⟨_,h3,hm⟩:=bnd hm;refine pu rfl (yR Z1 (aB.av_nn (vL h3))) ?_
    iterate 2 refine pA ?_
    obtain ⟨r5,h4,hm⟩:=bnd hm;refine aR.callQ (r:= .v (.int .i64 r5)) Zd Z1 bVf (fun H=>(cD (aB.data _) .nil)) (uY h4) ?_;refine pA ?_;refine fs (AWp.seq' (sN 320 ?_))
    iterate 3 refine pA ?_
    refine fs (AWp.condM hm Z1 (fun _ hm=>?_) (fun _ hm=>?_))
    ·
     refine sN 384 (pA ?_);obtain ⟨_,h6,hm⟩:=bnd hm;refine pu rfl (yR Z1 (aB.av_nn (vL h6))) ?_
     iterate 3 refine pA ?_
     obtain ⟨⟨r8,r9⟩,h7,hm⟩:=bnd hm;refine aR.callQ (r:= .tup [aB.av r8,aB.av r9]) Zd Z1 bVe (fun H=>(cD (aB.data _) (cV .nil))) (ih h7) ?_
     iterate 5 refine pA ?_
     refine fs (sd mix (by kernel_rfl) (N':=448) rfl ?_)
     iterate 3 refine pA ?_
     obtain ⟨_,h10,hm⟩:=bnd hm;refine pu rfl (yR Z1 (aB.av_nn (vL h10))) ?_
     iterate 3 refine pA ?_
     obtain ⟨_,h11,hm⟩:=bnd hm;refine pu rfl (yR Z1 (aB.av_nn (vL h11))) ?_
     iterate 2 refine pA ?_
     obtain ⟨r13,h12,hm⟩:=bnd hm;refine aR.callQ (r:=aB.av r13) Zd Z1 bG3 (fun H=>(cD (aB.data _) (cD (.agg _ (iM.dat _)) (cD (aB.data _) .nil)))) (aC7 h12) ?_
     iterate 2 refine pA ?_
     refine fs (AWp.ret (jC ?_));cases hm;exact aGg (.inr rfl) Tryz.results153 (td Z1 (aB.data _)) (td Z1 (aB.data _))
    ·
     refine AWp.skip (bQ (sN 384 (pA ?_)));obtain ⟨_,h14,hm⟩:=bnd hm;refine pu rfl (yR Z1 (aB.av_nn (vL h14))) ?_
     iterate 6 refine pA ?_
     obtain ⟨⟨r16,r17⟩,h15,hm⟩:=bnd hm;refine aR.callQ (r:= .tup [aB.av r16,aB.av r17]) Zd Z1 bVe (fun H=>(cD (aB.data _) (cV .nil))) (ih h15) ?_
     iterate 5 refine pA ?_
     refine fs (sd mix (by kernel_rfl) (N':=448) rfl ?_);refine pA ?_;obtain ⟨_,h18,hm⟩:=bnd hm;refine pu rfl (yR Z1 (aB.av_nn (vL h18))) ?_
     iterate 3 refine pA ?_
     obtain ⟨_,h19,hm⟩:=bnd hm;refine pu rfl (yR Z1 (aB.av_nn (vL h19))) ?_
     iterate 3 refine pA ?_
     obtain ⟨r21,h20,hm⟩:=bnd hm;refine aR.callQ (r:=aB.av r21) Zd Z1 bG3 (fun H=>(cD (aB.data _) (cD (.agg _ (iM.dat _)) (cD (aB.data _) .nil)))) (aC7 h20) ?_
     iterate 3 refine pA ?_
     refine fs (AWp.ret ?_);cases hm;exact aGg (.inr rfl) Tryz.results153 (td Z1 (aB.data _)) (td Z1 (aB.data _))
theorem aE1{s_0:aB}{aBx:Int}{r:aB×aB}(hm:tP s_0 aBx=some r):cE prog 153 [aB.av s_0,.v (.int .i64 aBx)] (.tup [aB.av r.1,aB.av r.2]):=aR3 aY hm
def tN(recf:(List bS)→Option (aB))(l_0:List bS):Option (aB):=
 (bif ((l_0.length:Int)==0) then
  some aB.nil
 else
  ((slc l_0 0 (IntKind.i64.wrap (Int.tdiv (l_0.length:Int) 2))).bind fun l2=>
  ((recf l2).bind fun r4=>
  ((idx l_0 (IntKind.i64.wrap (Int.tdiv (l_0.length:Int) 2))).bind fun x6=>
  ((slc l_0 (IntKind.i64.wrap ((IntKind.i64.wrap (Int.tdiv (l_0.length:Int) 2))+1)) (l_0.length:Int)).bind fun l8=>
  ((recf l8).bind fun r10=>
  ((eQ r4 x6 r10).bind fun r12=>
  some r12)))))))
def yM:Nat→(List bS)→Option (aB)
 |0=>fun _=>none
 |n+1=>tN (yM n)
def aF1(l_0:List bS):Option (aB):=yM aY l_0
theorem aYm: ∀(nn:Nat) {l_0:List bS} {r:aB} (hm:yM nn l_0=some r),cE prog 155 [.sl (l_0.flatMap aAi) l_0.length false] (aB.av r):=by
 intro nn
 induction nn with
 |zero=>
  intro l_0 r hm;replace hm:none=some r:=hm;cases hm
 |succ nn ih=>
  intro l_0 r hm;replace hm:tN (yM nn) l_0=some r:=hm;refine cE.of_body func155 rfl ?_;simp only [ntmps155,List.length_cons,List.length_nil,Nat.reduceAdd,Nat.reduceSub,iO];unfold tN at hm;refine sN 64 (pA ?_);refine fs (AWp.seq' (sN 128 ?_))
  iterate 3 refine pA ?_
  refine fs (AWp.condM hm Z1 (fun _ hm=>?_) (fun _ hm=>?_))
  · refine sN 192 (pA ?_);refine fs (AWp.ret (jC ?_));cases hm;exact aNg (.inr rfl) Tryz.results155 (td Z1 (aB.data _))
  ·
   refine AWp.skip (bQ (sN 192 ?_))
   iterate 4 refine pu rfl Zj ?_
   refine fs (sd mix (by kernel_rfl) (N':=256) rfl ?_)
   iterate 2 refine pA ?_
   obtain ⟨l2,h1,hm⟩:=bnd hm;refine pu rfl (bCv iM underlying267 bH4 Z1 rfl aRn (aCg Z1 (bH1 h1).2) h1) ?_;obtain ⟨r4,h3,hm⟩:=bnd hm;refine aR.callQ (r:=aB.av r4) Zd Z1 bNf (fun H=>(.cons (tdf Z1 (iM.sl _ _ _)) .nil)) (ih h3) ?_
   iterate 2 refine pA ?_
   obtain ⟨x6,h5,hm⟩:=bnd hm;refine pu rfl (aGn iM Zd underlying267 bH4 Z1 rfl Z1 h5) ?_
   iterate 4 refine pA ?_
   obtain ⟨l8,h7,hm⟩:=bnd hm;refine pu rfl (bCv iM underlying267 bH4 Z1 rfl (aCg Z1 (bH1 h7).1) (aWg _) h7) ?_;obtain ⟨r10,h9,hm⟩:=bnd hm;refine aR.callQ (r:=aB.av r10) Zd Z1 bNf (fun H=>(.cons (tdf Z1 (iM.sl _ _ _)) .nil)) (ih h9) ?_;obtain ⟨r12,h11,hm⟩:=bnd hm;refine aR.callQ (r:=aB.av r12) Zd Z1 bVg (fun H=>(cD (aB.data _) (cD (.agg _ (iM.dat _)) (cD (aB.data _) .nil)))) (aFo h11) ?_;refine pA ?_;refine fs (AWp.ret ?_);cases hm;exact aNg (.inr rfl) Tryz.results155 (td Z1 (aB.data _))
theorem bBr{l_0:List bS}{r:aB}(hm:aF1 l_0=some r):cE prog 155 [.sl (l_0.flatMap aAi) l_0.length false] (aB.av r):=aYm aY hm
def rU(a_0:aB)(b_1:aB):Option (aB):=
 ((qH b_1 0).bind fun ⟨r2,r3⟩=>
 (bif (!r3) then
  some a_0
 else
  ((tP b_1 1).bind fun ⟨r5,r6⟩=>
  ((rH a_0 r2 r6).bind fun r8=>
  some r8))))
theorem aFn{a_0:aB}{b_1:aB}{r:aB}(hm:rU a_0 b_1=some r):cE prog 154 [aB.av a_0,aB.av b_1] (aB.av r):=by
 refine bd 26 func154 ?_;refine W ?_;obtain ⟨⟨r2,r3⟩,h1,hm⟩:=bnd hm;refine cq (aF0 h1) ?_;refine W ?_;refine cm hm (fun hm=>?_) fun hm=>?_
 · exact E
 refine W ?_;obtain ⟨⟨r5,r6⟩,h4,hm⟩:=bnd hm;refine cq (aE1 h4) ?_;obtain ⟨r8,h7,hm⟩:=bnd hm;refine W ?_;refine cq (aC7 h7) ?_;exact E
instance:Ct prog 154 (K2 prog aB.av aB.av aB.av 154 rU):=⟨fun hm=>aFn hm⟩
abbrev aH0(jY:Int)(n_2:Int)(t6:cC)(aSh:aB)(aJ9:aB):Option (cC):=
 ((aF1 [(bS.mk jY n_2)]).bind fun r7=>
 ((rU r7 aJ9).bind fun r9=>
 ((rU aSh r9).bind fun r11=>
 some (cC.mk r11))))
def aG0(d_0:cC)(jY:Int)(n_2:Int):Option (cC):=
 ((aAj d_0 jY).bind fun r2=>
 ((tP d_0.s r2).bind fun ⟨r4,r5⟩=>
 ((qH r5 0).bind fun ⟨r13,r14⟩=>
 (bif (r14&&(r13.Key==jY)) then
  ((tP r5 1).bind fun ⟨r16,r17⟩=>
  aH0 jY n_2 (cC.mk aB.nil) r4 r17)
 else
  aH0 jY n_2 (cC.mk aB.nil) r4 r5))))
theorem bI5{d_0:cC}{jY:Int}{n_2:Int}{r:cC}(hm:aG0 d_0 jY n_2=some r):cE prog 118 [.agg [aB.av d_0.s],vu jY,vi n_2] (.agg [aB.av r.s]):=by
 refine bd 47 func118 ?_;obtain ⟨r2,h1,hm⟩:=bnd hm;refine W ?_;refine cq (aS2 h1) ?_;obtain ⟨⟨r4,r5⟩,h3,hm⟩:=bnd hm;refine cq (aE1 h3) ?_;refine V ?_;refine AWp.seqJ (fun s=> ∃jY n_2 t6 aSh aJ9,s=⟨47,(aF (aF (aF (aF (aF fa 1 (vu jY)) 2 (vi n_2)) 6 (.adr 1 0)) 7 (aB.av aSh)) 8 (aB.av aJ9)),⟨(upd aZ 1 (.cells 1 [aB.av t6.s] 0)),64⟩⟩∧aH0 jY n_2 t6 aSh aJ9=some r) ?_ ?_
 ·
  refine W ?_;obtain ⟨⟨r13,r14⟩,h12,hm⟩:=bnd hm;refine cq (aF0 h12) ?_;refine W ?_;refine cm hm (fun hm=>?_) fun hm=>?_
  · refine W ?_;obtain ⟨⟨r16,r17⟩,h15,hm⟩:=bnd hm;refine cq (aE1 h15) ?_;refine W ?_;exact Lr (fun j=>bif j==1 then 1 else 0)
  refine W ?_;exact Lr (fun j=>bif j==1 then 1 else 0)
 rintro s ⟨jY,n_2,t6,aSh,aJ9,rfl,hm⟩;refine W ?_;refine bU (.agg [vu jY,vi n_2]) ?_;refine aL iM [(bS.mk jY n_2)] ?_;obtain ⟨r7,h6,hm⟩:=bnd hm;refine aR.callL1 (r:=aB.av r7) (id:=68) Zd Z1 bNf Z3 (.cons (tdl iM Z1 Z3 (by simp) Z6) .nil) (bBr h6) ?_;obtain ⟨r9,h8,hm⟩:=bnd hm;refine W ?_;refine cq (aFn h8) ?_;obtain ⟨r11,h10,hm⟩:=bnd hm;refine cq (aFn h10) ?_;refine pu rfl (by simp only [go_sem,Nat.reduceBEq];exact bMh (aB.cells _)) ?_;exact E
instance:Ct prog 118 (K3 prog xS vu vi xS 118 aG0):=⟨fun hm=>bI5 hm⟩
abbrev aFu(rec1:cC→cC→List aN→Int→Int→Option (cC×Bool))(t2:cC)(qZ:cC)(t14:List aN)(t15:Int)(t16:Int):Option (cC×Bool):=
 rec1 t2 qZ t14 t15 (IntKind.i64.wrap (t16+1))
def aFt(rec1:cC→cC→List aN→Int→Int→Option (cC×Bool))(t2:cC)(qZ:cC)(t14:List aN)(t15:Int)(t16:Int):Option (cC×Bool):=
 (bif (decide (t16<t15)) then
  ((idx t14 t16).bind fun x4=>
  (bif (!x4.Used) then
   (bif (x4.Key !=0) then
    some ((cC.mk aB.nil),false)
   else
    aFu rec1 t2 qZ t14 t15 t16)
  else
   ((xX qZ x4.Key).bind fun ⟨r6,r7⟩=>
   (bif r7 then
    some ((cC.mk aB.nil),false)
   else
    ((aG0 qZ x4.Key t16).bind fun r9=>
    aFu rec1 t2 r9 t14 t15 t16)))))
 else
  some (qZ,true))
def wW:Nat→cC→cC→List aN→Int→Int→Option (cC×Bool)
 |0=>fun _ _ _ _ _=>none
 |n+1=>aFt (wW n)
def oC(l_0:List aN):Option (cC×Bool):=
 ((rC (l_0.length:Int)).bind fun r2=>
 (bif (!r2) then
  some ((cC.mk aB.nil),false)
 else
  wW aY (cC.mk aB.nil) (cC.mk aB.nil) l_0 (l_0.length:Int) 0))
theorem aI1:K1 prog (vl aW) (t2 xS vb) 78 oC:=by
 intro l_0 r hm
 let I1:=((fun m s=> ∃t2 qZ t14 t15 t16,s=⟨44,(aF (aF (aF (aF (aF fa 2 (.adr 1 0)) 4 (.adr 2 0)) 14 (vl aW t14)) 15 (vi t15)) 16 (vi t16)),⟨(upd (upd aZ 1 (.cells 1 [aB.av t2.s] 0)) 2 (.cells 1 [aB.av qZ.s] 0)),64⟩⟩∧wW m t2 qZ t14 t15 t16=some r):Nat→St→Prop)
 exact be 44 func78 (h:=G)
instance:Ct prog 78 (K1 prog (vl aW) (t2 xS vb) 78 oC):=⟨aI1⟩
def aA7(l_0:List aN):Option (Bool):=
 ((oC l_0).bind fun ⟨r2,r3⟩=>
 some r3)
theorem aZ0:K1 prog (vl aW) vb 77 aA7:=fun hm=>be 11 func77 (h:=G)
instance:Ct prog 77 (K1 prog (vl aW) vb 77 aA7):=⟨aZ0⟩
def aHu(rec1:aC→List aE→Int→Int→Option (Bool))(s_1:aC)(t27:List aE)(t28:Int)(t29:Int):Option (Bool):=
 (bif (decide (t29<t28)) then
  ((idx t27 t29).bind fun x6=>
  ((idx s_1.Slots x6.U).bind fun x8=>
  ((eJ ((!x8.Used)==false) (aN.mk false 0) (idx s_1.Slots x6.V)).bind fun x10=>
  (bif ((!x8.Used)||(!x10.Used)) then
   some false
  else
   rec1 s_1 t27 t28 (IntKind.i64.wrap (t29+1))))))
 else
  some true)
def aA5:Nat→aC→List aE→Int→Int→Option (Bool)
 |0=>fun _ _ _ _=>none
 |n+1=>aHu (aA5 n)
def mP(s_0:aC):Option (Bool):=
 ((gY s_0.Graph).bind fun r2=>
 ((eJ ((!r2)==false) false (aA7 s_0.Slots)).bind fun r4=>
 (bif (((!r2)||(!r4))||((s_0.Slots.length:Int) !=s_0.Graph.Config.N)) then
  some false
 else
  aA5 aY s_0 s_0.Graph.Edges (s_0.Graph.Edges.length:Int) 0)))
theorem aQb:K1 prog dP vb 36 mP:=by
 intro s_0 r hm
 let I1:=((fun m s=> ∃s_1 t27 t28 t29,s=⟨52,(aF (aF (aF (aF fa 1 (.adr 1 0)) 27 (vl aV t27)) 28 (vi t28)) 29 (vi t29)),⟨(upd aZ 1 (.cells 1 [vi s_1.Graph.Config.N,vi s_1.Graph.Config.L,vi s_1.Graph.Config.R,vl cH s_1.Graph.Hashes,vl aV s_1.Graph.Edges,vl aW s_1.Slots] 0)),64⟩⟩∧aA5 m s_1 t27 t28 t29=some r):Nat→St→Prop)
 exact be 52 func36 (h:=G)
instance:Ct prog 36 (K1 prog dP vb 36 mP):=⟨aQb⟩
def uB(l_0:List aN)(jY:Int):Option (Int×Bool):=
 ((oC l_0).bind fun ⟨r2,r3⟩=>
 (bif (!r3) then
  some (0,false)
 else
  ((xX r2 jY).bind fun ⟨r5,r6⟩=>
  some (r5,r6))))
theorem bCd:K2 prog (vl aW) vu (t2 vi vb) 37 uB:=fun hm=>be 20 func37 (h:=G)
instance:Ct prog 37 (K2 prog (vl aW) vu (t2 vi vb) 37 uB):=⟨bCd⟩
def qM(bA2:Int):Option (Bool):=
 some (((decide (2≤bA2))&&(decide (bA2≤11)))&&(bA2 !=10))
theorem aXg:K1 prog vi vb 38 qM:=fun hm=>be 13 func38 (h:=G)
instance:Ct prog 38 (K1 prog vi vb 38 qM):=⟨aXg⟩
def qN(bA2:Int):Option (Bool):=
 some ((((bA2==3)||(bA2==4))||(bA2==5))||(bA2==8))
theorem aXh:K1 prog vi vb 39 qN:=fun hm=>be 17 func39 (h:=G)
instance:Ct prog 39 (K1 prog vi vb 39 qN):=⟨aXh⟩
def yC(s_0:aC)(v_1:Int):Option ((List Int)):=
 ((aF6 s_0.Graph.Config.N s_0.Graph.Edges v_1).bind fun r2=>
 some r2)
theorem bAg:K2 prog dP vi (vl (ci .i64)) 83 yC:=fun hm=>be 14 func83 (h:=G)
instance:Ct prog 83 (K2 prog dP vi (vl (ci .i64)) 83 yC):=⟨bAg⟩
def rO(s_0:aC)(v_1:Int):Option (Int):=
 ((yC s_0 v_1).bind fun r2=>
 some (r2.length:Int))
theorem aUc:K2 prog dP vi vi 81 rO:=fun hm=>be 9 func81 (h:=G)
instance:Ct prog 81 (K2 prog dP vi vi 81 rO):=⟨aUc⟩
def oT(x_0:Int):Option (Bool):=
 some (x_0 !=x_0)
theorem aOc:K1 prog vu vb 162 oT:=fun hm=>be 6 func162 (h:=G)
instance:Ct prog 162 (K1 prog vu vb 162 oT):=⟨aOc⟩
def dC(x_0:Int)(y_1:Int):Option (Bool):=
 ((oT x_0).bind fun r2=>
 ((eJ (r2==true) false (oT y_1)).bind fun r4=>
 some ((r2&&(!r4))||(decide (x_0<y_1)))))
theorem aBy:K2 prog vu vu vb 199 dC:=fun hm=>be 17 func199 (h:=G)
instance:Ct prog 199 (K2 prog vu vu vb 199 dC):=⟨aBy⟩
def jK(rec1:List Int→Int→Int→Int→Option (List Int))(rec2:List Int→Int→Int→Int→Int→Option (List Int))(aD:List Int)(a_1:Int)(b_2:Int)(i_6:Int)(j_7:Int):Option (List Int):=
 ((eJ ((decide (a_1<j_7))==true) 0 (idx aD j_7)).bind fun x2=>
 ((eJ ((decide (a_1<j_7))==true) 0 (idx aD (IntKind.i64.wrap (j_7-1)))).bind fun x4=>
 ((eJ ((decide (a_1<j_7))==true) false (dC x2 x4)).bind fun r6=>
 (bif ((decide (a_1<j_7))&&r6) then
  ((idx aD (IntKind.i64.wrap (j_7-1))).bind fun x8=>
  ((idx aD j_7).bind fun x10=>
  ((idx aD j_7).bind fun x12=>
  ((stt aD j_7 x8).bind fun l14=>
  ((idx l14 (IntKind.i64.wrap (j_7-1))).bind fun x16=>
  ((stt l14 (IntKind.i64.wrap (j_7-1)) x10).bind fun l18=>
  rec2 l18 a_1 b_2 i_6 (IntKind.i64.wrap (j_7-1))))))))
 else
  rec1 aD a_1 b_2 (IntKind.i64.wrap (i_6+1))))))
def eT(rec1:List Int→Int→Int→Int→Option (List Int)):Nat→List Int→Int→Int→Int→Int→Option (List Int)
 |0=>fun _ _ _ _ _=>none
 |n+1=>jK rec1 (eT rec1 n)
def jJ(rec1:List Int→Int→Int→Int→Option (List Int))(aD:List Int)(a_1:Int)(b_2:Int)(i_6:Int):Option (List Int):=
 (bif (decide (i_6<b_2)) then
  eT rec1 aY aD a_1 b_2 i_6 i_6
 else
  some aD)
def dU:Nat→List Int→Int→Int→Int→Option (List Int)
 |0=>fun _ _ _ _=>none
 |n+1=>jJ (dU n)
def fD(aD:List Int)(a_1:Int)(b_2:Int):Option (List Int):=
 dU aY aD a_1 b_2 (IntKind.i64.wrap (a_1+1))
instance:FB prog 193:=⟨by kernel_rfl⟩
theorem nA: ∀ {aD:List Int} {a_1:Int} {b_2:Int},KM prog 193 [.v (.int .i64 a_1),vi b_2] aD (fD aD a_1 b_2) (fun r=>r) (fun r=> .tup []):=by
 intro aD a_1 b_2 r hm H i0 he;refine bM 49 func193 he fun h0=>?_
 let I1:=((fun m s=> ∃aD a_1 b_2 i_6,jM 49 (aF (aF (aF (aF fa 0 (.own i0 0 aD.length)) 1 (vi a_1)) 2 (vi b_2)) 6 (vi i_6)) h0 i0 aD (dU m aD a_1 b_2 i_6) r s):Nat→St→Prop)
 let I2:=fun (n1:Nat)=>((fun m s=> ∃aD a_1 b_2 i_6 j_7,jM 49 (aF (aF (aF (aF (aF fa 0 (.own i0 0 aD.length)) 1 (vi a_1)) 2 (vi b_2)) 6 (vi i_6)) 7 (vi j_7)) h0 i0 aD (eT (dU n1) m aD a_1 b_2 i_6 j_7) r s):Nat→St→Prop)
 exact GM
instance:Ct prog 193 (∀ {aD:List Int} {a_1:Int} {b_2:Int},KM prog 193 [.v (.int .i64 a_1),vi b_2] aD (fD aD a_1 b_2) (fun r=>r) (fun r=> .tup [])):=⟨nA⟩
abbrev iZ(rec1:List Int→Int→Int→Int→Option (List Int))(aD:List Int)(aFe:Int)(jH:Int)(qW:Int)(aMp:Int):Option (List Int):=
 ((idx aD (IntKind.i64.wrap (jH+qW))).bind fun x2=>
 ((idx aD (IntKind.i64.wrap (jH+aMp))).bind fun x4=>
 ((dC x2 x4).bind fun r6=>
 (bif (!r6) then
  some aD
 else
  ((idx aD (IntKind.i64.wrap (jH+aMp))).bind fun x8=>
  ((idx aD (IntKind.i64.wrap (jH+qW))).bind fun x10=>
  ((idx aD (IntKind.i64.wrap (jH+qW))).bind fun x12=>
  ((stt aD (IntKind.i64.wrap (jH+qW)) x8).bind fun l14=>
  ((idx l14 (IntKind.i64.wrap (jH+aMp))).bind fun x16=>
  ((stt l14 (IntKind.i64.wrap (jH+aMp)) x10).bind fun l18=>
  rec1 l18 aFe jH aMp))))))))))
def lG(rec1:List Int→Int→Int→Int→Option (List Int))(aD:List Int)(aFe:Int)(jH:Int)(qW:Int):Option (List Int):=
 (bif (decide (aFe≤(IntKind.i64.wrap ((IntKind.i64.wrap (2*qW))+1)))) then
  some aD
 else
  ((eJ ((decide ((IntKind.i64.wrap ((IntKind.i64.wrap ((IntKind.i64.wrap (2*qW))+1))+1))<aFe))==true) 0 (idx aD (IntKind.i64.wrap (jH+(IntKind.i64.wrap ((IntKind.i64.wrap (2*qW))+1)))))).bind fun x20=>
  ((eJ ((decide ((IntKind.i64.wrap ((IntKind.i64.wrap ((IntKind.i64.wrap (2*qW))+1))+1))<aFe))==true) 0 (idx aD (IntKind.i64.wrap ((IntKind.i64.wrap (jH+(IntKind.i64.wrap ((IntKind.i64.wrap (2*qW))+1))))+1)))).bind fun x22=>
  ((eJ ((decide ((IntKind.i64.wrap ((IntKind.i64.wrap ((IntKind.i64.wrap (2*qW))+1))+1))<aFe))==true) false (dC x20 x22)).bind fun r24=>
  (bif ((decide ((IntKind.i64.wrap ((IntKind.i64.wrap ((IntKind.i64.wrap (2*qW))+1))+1))<aFe))&&r24) then
   iZ rec1 aD aFe jH qW (IntKind.i64.wrap ((IntKind.i64.wrap ((IntKind.i64.wrap (2*qW))+1))+1))
  else
   iZ rec1 aD aFe jH qW (IntKind.i64.wrap ((IntKind.i64.wrap (2*qW))+1)))))))
def eX:Nat→List Int→Int→Int→Int→Option (List Int)
 |0=>fun _ _ _ _=>none
 |n+1=>lG (eX n)
def fK(aD:List Int)(uO:Int)(aFe:Int)(jH:Int):Option (List Int):=
 eX aY aD aFe jH uO
instance:FB prog 238:=⟨by kernel_rfl⟩
theorem aBq: ∀ {aD:List Int} {uO:Int} {aFe:Int} {jH:Int},KM prog 238 [.v (.int .i64 uO),vi aFe,vi jH] aD (fK aD uO aFe jH) (fun r=>r) (fun r=> .tup []):=by
 intro aD uO aFe jH r hm H i0 he;refine bM 76 func238 he fun h0=>?_
 let I1:=((fun m s=> ∃aD aFe jH qW,jM 76 (aF (aF (aF (aF fa 0 (.own i0 0 aD.length)) 2 (vi aFe)) 3 (vi jH)) 8 (vi qW)) h0 i0 aD (eX m aD aFe jH qW) r s):Nat→St→Prop)
 exact GM
instance:Ct prog 238 (∀ {aD:List Int} {uO:Int} {aFe:Int} {jH:Int},KM prog 238 [.v (.int .i64 uO),vi aFe,vi jH] aD (fK aD uO aFe jH) (fun r=>r) (fun r=> .tup [])):=⟨aBq⟩
def lF(rec2:List Int→Int→Int→Int→Option (List Int))(aD:List Int)(nE:Int)(aSm:Int)(iJ:Int):Option (List Int):=
 (bif (decide (0≤iJ)) then
  ((idx aD (IntKind.i64.wrap (nE+iJ))).bind fun x4=>
  ((idx aD nE).bind fun x6=>
  ((idx aD nE).bind fun x8=>
  ((stt aD nE x4).bind fun l10=>
  ((idx l10 (IntKind.i64.wrap (nE+iJ))).bind fun x12=>
  ((stt l10 (IntKind.i64.wrap (nE+iJ)) x6).bind fun l14=>
  ((aA9 (fun x=>x.length) l14.length (fK l14 aSm iJ nE)).bind fun l16=>
  rec2 l16 nE aSm (IntKind.i64.wrap (iJ-1)))))))))
 else
  some aD)
def gQ:Nat→List Int→Int→Int→Int→Option (List Int)
 |0=>fun _ _ _ _=>none
 |n+1=>lF (gQ n)
def lD(rec1:List Int→Int→Int→Int→Int→Option (List Int))(aD:List Int)(nE:Int)(aSm:Int)(bKw:Int)(i_9:Int):Option (List Int):=
 (bif (decide (0≤i_9)) then
  ((aA9 (fun x=>x.length) aD.length (fK aD i_9 bKw nE)).bind fun l2=>
  rec1 l2 nE aSm bKw (IntKind.i64.wrap (i_9-1)))
 else
  gQ aY aD nE aSm (IntKind.i64.wrap (bKw-1)))
def gP:Nat→List Int→Int→Int→Int→Int→Option (List Int)
 |0=>fun _ _ _ _ _=>none
 |n+1=>lD (gP n)
def iB(aD:List Int)(a_1:Int)(b_2:Int):Option (List Int):=
 gP aY aD a_1 0 (IntKind.i64.wrap (b_2-a_1)) (IntKind.i64.wrap (Int.tdiv (IntKind.i64.wrap ((IntKind.i64.wrap (b_2-a_1))-1)) 2))
instance:FB prog 194:=⟨by kernel_rfl⟩
theorem qI: ∀ {aD:List Int} {a_1:Int} {b_2:Int},KM prog 194 [.v (.int .i64 a_1),vi b_2] aD (iB aD a_1 b_2) (fun r=>r) (fun r=> .tup []):=by
 intro aD a_1 b_2 r hm H i0 he;refine bM 56 func194 he fun h0=>?_
 let I1:=((fun m s=> ∃aD nE aSm bKw i_9,jM 56 (aF (aF (aF (aF (aF fa 0 (.own i0 0 aD.length)) 6 (vi nE)) 7 (vi aSm)) 8 (vi bKw)) 9 (vi i_9)) h0 i0 aD (gP m aD nE aSm bKw i_9) r s):Nat→St→Prop)
 let I2:=((fun m s=> ∃aD nE aSm iJ,jM 56 (aF (aF (aF (aF fa 0 (.own i0 0 aD.length)) 6 (vi nE)) 7 (vi aSm)) 10 (vi iJ)) h0 i0 aD (gQ m aD nE aSm iJ) r s):Nat→St→Prop)
 exact GM
instance:Ct prog 194 (∀ {aD:List Int} {a_1:Int} {b_2:Int},KM prog 194 [.v (.int .i64 a_1),vi b_2] aD (iB aD a_1 b_2) (fun r=>r) (fun r=> .tup [])):=⟨qI⟩
def kK(bOr:Int):Option (Int):=
 ((xU (IntKind.u64.wrap bOr)).bind fun r2=>
 ((chk (decide (0≤r2))).bind fun _=>
 some (shl .u64 1 r2)))
theorem aA4:K1 prog vi vu 239 kK:=fun hm=>be 7 func239 (h:=G)
instance:Ct prog 239 (K1 prog vi vu 239 kK):=⟨aA4⟩
def aAx(r_0:Int):Option (Int×Int):=
 some ((aAh .u64 (aAh .u64 (aAh .u64 r_0 (shl .u64 r_0 13)) (shr .u64 (aAh .u64 r_0 (shl .u64 r_0 13)) 7)) (shl .u64 (aAh .u64 (aAh .u64 r_0 (shl .u64 r_0 13)) (shr .u64 (aAh .u64 r_0 (shl .u64 r_0 13)) 7)) 17)),(aAh .u64 (aAh .u64 (aAh .u64 r_0 (shl .u64 r_0 13)) (shr .u64 (aAh .u64 r_0 (shl .u64 r_0 13)) 7)) (shl .u64 (aAh .u64 (aAh .u64 r_0 (shl .u64 r_0 13)) (shr .u64 (aAh .u64 r_0 (shl .u64 r_0 13)) 7)) 17)))
theorem aP6{r_0:Int}{r:Int×Int}(hm:aAx r_0=some r){H:aH}{i0:Nat}(he:H.ent i0= .cells 1 [.v (.int .u64 r_0)] 0):eK prog 240 [.adr i0 0] H (.v (.int .u64 r.1)) (H.put i0 (.cells 1 [.v (.int .u64 r.2)] 0)):=by
 refine eK.of_bodyM func240 rfl he ?_;generalize H.ent=h0;simp only [ntmps240,List.length_cons,List.length_nil,Nat.reduceAdd,Nat.reduceSub];unfold aAx at hm;refine sN 64 (pA ?_);refine fs (sd mix (by kernel_rfl) (N':=128) rfl ?_)
 iterate 2 refine pA ?_
 refine pu rfl (hZ Z1 Za Z2) ?_
 iterate 2 refine pA ?_
 refine pu rfl (hZ Z1 Za Z2) ?_
 iterate 3 refine pu rfl Zj ?_
 refine aR.heap0 (id:=73) rfl (oD (ys:=[.v (.int .u64 (aAh .u64 r_0 (shl .u64 r_0 13)))]) bBw Z1 Z1 Za rfl (lB rfl) Z9 rfl) ?_;refine fs (sd mix (by kernel_rfl) (N':=192) rfl ?_)
 iterate 2 refine pA ?_
 refine pu rfl (hZ Z1 Za Z2) ?_
 iterate 2 refine pA ?_
 refine pu rfl (hZ Z1 Za Z2) ?_
 iterate 3 refine pu rfl Zj ?_
 refine aR.heap0 (id:=137) rfl (oD (ys:=[.v (.int .u64 (aAh .u64 (aAh .u64 r_0 (shl .u64 r_0 13)) (shr .u64 (aAh .u64 r_0 (shl .u64 r_0 13)) 7)))]) bBw Z1 Z1 Za rfl (lB rfl) Z9 rfl) ?_;refine fs (sd mix (by kernel_rfl) (N':=256) rfl ?_)
 iterate 2 refine pA ?_
 refine pu rfl (hZ Z1 Za Z2) ?_
 iterate 2 refine pA ?_
 refine pu rfl (hZ Z1 Za Z2) ?_
 iterate 3 refine pu rfl Zj ?_
 refine aR.heap0 (id:=201) rfl (oD (ys:=[.v (.int .u64 (aAh .u64 (aAh .u64 (aAh .u64 r_0 (shl .u64 r_0 13)) (shr .u64 (aAh .u64 r_0 (shl .u64 r_0 13)) 7)) (shl .u64 (aAh .u64 (aAh .u64 r_0 (shl .u64 r_0 13)) (shr .u64 (aAh .u64 r_0 (shl .u64 r_0 13)) 7)) 17)))]) bBw Z1 Z1 Za rfl (lB rfl) Z9 rfl) ?_;refine fs (sN 320 ?_)
 iterate 2 refine pA ?_
 refine pu rfl (hZ Z1 Za Z2) ?_;refine pA ?_;refine fs (AWp.ret ?_);cases hm;exact bBl (.inr rfl) Tryz.results240 Z1 Zc
abbrev gZ(rec1:List Int→Int→Int→Int→Int→Int→Option (List Int))(aD:List Int)(a_1:Int)(gO:Int)(jU:Int)(eI:Int)(oV:Int):Option (List Int):=
 rec1 aD a_1 gO jU eI (IntKind.i64.wrap (oV+1))
abbrev dT(rec1:List Int→Int→Int→Int→Int→Int→Option (List Int))(aD:List Int)(a_1:Int)(gO:Int)(jU:Int)(eI:Int)(oV:Int)(aDs:Int):Option (List Int):=
 ((idx aD (IntKind.i64.wrap (a_1+aDs))).bind fun x7=>
 ((idx aD oV).bind fun x9=>
 ((idx aD oV).bind fun x11=>
 ((stt aD oV x7).bind fun l13=>
 ((idx l13 (IntKind.i64.wrap (a_1+aDs))).bind fun x15=>
 ((stt l13 (IntKind.i64.wrap (a_1+aDs)) x9).bind fun l17=>
 gZ rec1 l17 a_1 gO jU eI oV))))))
def eR(rec1:List Int→Int→Int→Int→Int→Int→Option (List Int))(aD:List Int)(a_1:Int)(gO:Int)(jU:Int)(eI:Int)(oV:Int):Option (List Int):=
 (bif (decide (oV≤(IntKind.i64.wrap ((IntKind.i64.wrap (a_1+(IntKind.i64.wrap ((IntKind.i64.wrap (Int.tdiv gO 4))*2))))+1)))) then
  ((aAx jU).bind fun ⟨r5,x4⟩=>
  (bif (decide (gO≤(IntKind.i64.wrap (yU .u64 r5 (IntKind.u64.wrap (eI-1)))))) then
   dT rec1 aD a_1 gO x4 eI oV (IntKind.i64.wrap ((IntKind.i64.wrap (yU .u64 r5 (IntKind.u64.wrap (eI-1))))-gO))
  else
   dT rec1 aD a_1 gO x4 eI oV (IntKind.i64.wrap (yU .u64 r5 (IntKind.u64.wrap (eI-1))))))
 else
  some aD)
def bW:Nat→List Int→Int→Int→Int→Int→Int→Option (List Int)
 |0=>fun _ _ _ _ _ _=>none
 |n+1=>eR (bW n)
def fC(aD:List Int)(a_1:Int)(b_2:Int):Option (List Int):=
 (bif (decide (8≤(IntKind.i64.wrap (b_2-a_1)))) then
  ((kK (IntKind.i64.wrap (b_2-a_1))).bind fun r2=>
  bW aY aD a_1 (IntKind.i64.wrap (b_2-a_1)) (IntKind.u64.wrap (IntKind.i64.wrap (b_2-a_1))) r2 (IntKind.i64.wrap ((IntKind.i64.wrap (a_1+(IntKind.i64.wrap ((IntKind.i64.wrap (Int.tdiv (IntKind.i64.wrap (b_2-a_1)) 4))*2))))-1)))
 else
  some aD)
theorem xQ{aD:List Int}{a_1:Int}{b_2:Int}{r:List Int}(hm:fC aD a_1 b_2=some r){H:aH}{i0:Nat}(he:H.ent i0= .cells 1 (aD.flatMap (ci .u64)) 0)(hk: ∀id,3000000≤id→H.ent id= .fresh)(hD: ∀id,aF9 (H.ent id))(hi:i0<3000000):eK prog 195 [.own i0 0 aD.length,.v (.int .i64 a_1),.v (.int .i64 b_2)] H (.tup []) (H.put i0 (.cells 1 (r.flatMap (ci .u64)) 0)):=by
 refine eK.of_bodyK func195 rfl he hk ?_;clear he;generalize H.ent=h0 at hk hD⊢;have hne1: ∀ {k:Nat},3000000≤k→(k==i0)=false:=fun hh=>by simp;omega
 have hne2: ∀ {k:Nat},3000000≤k→(i0==k)=false:=fun hh=>by simp;omega
 simp only [ntmps195,List.length_cons,List.length_nil,Nat.reduceAdd,Nat.reduceSub];unfold fC at hm;refine AWp.behind ?_;refine sN 3000064 ?_
 iterate 4 refine pA ?_
 refine fs (sN 3000128 ?_)
 iterate 2 refine pA ?_
 refine fs (AWp.condM hm Z1 (fun _ hm=>?_) (fun _ hm=>?_))
 ·
  refine sN 3000192 ?_
  iterate 2 refine pA ?_
  refine hp (id:=3000130) rfl rfl (nQ cI1 (by simp only [dV,hne1,Nat.reduceLeDiff,Nat.reduceBEq,cond_true,cond_false];exact frK hk Zd)) ?_;refine aR.heap0 (id:=3000131) rfl (oD (ys:=[.v (.int .u64 (IntKind.u64.wrap (IntKind.i64.wrap (b_2-a_1))))]) bBw Z1 Z1 Ze rfl (lB rfl) Z9 rfl) ?_;refine fs (sN 3000256 (pA ?_));obtain ⟨r2,h1,hm⟩:=bnd hm;refine aR.callQ (r:= .v (.int .u64 r2)) Zd Z1 bZt (fun H=>(cV .nil)) (aA4 h1) ?_;refine pA ?_;refine fs (sN 3000320 ?_)
  iterate 7 refine pu rfl Zj ?_
  refine fs (AWp.block (AWp.loopM (fun m s=> ∃(aD:List Int) (a_1:Int) (gO:Int) (jU:Int) (eI:Int) (oV:Int),s=(⟨65,(aF (aF (aF (aF (aF (aF (fun _=>AV.any) 0 (.own i0 0 aD.length)) 1 (.v (.int .i64 a_1))) 6 (.v (.int .i64 gO))) 7 (.adr 3000130 0)) 8 (.v (.int .u64 eI))) 9 (.v (.int .i64 oV))),⟨(upd (upd h0 i0 (.cells 1 (aD.flatMap (ci .u64)) 0)) 3000130 (.cells 1 [.v (.int .u64 jU)] 0)),64⟩⟩:St)∧bW m aD a_1 gO jU eI oV=some r) aY ?_ ?_ ?_))
  · rintro s ⟨_,_,_,_,_,_,_,h⟩;cases h
  · refine ⟨_,?_,aD,a_1,(IntKind.i64.wrap (b_2-a_1)),(IntKind.u64.wrap (IntKind.i64.wrap (b_2-a_1))),r2,(IntKind.i64.wrap ((IntKind.i64.wrap (a_1+(IntKind.i64.wrap ((IntKind.i64.wrap (Int.tdiv (IntKind.i64.wrap (b_2-a_1)) 4))*2))))-1)),rfl,hm⟩;exact sD (bD 9 _ Z1 (bD 8 _ Z1 (bD 7 _ Z1 (bD 6 _ Z1 (bD 1 _ Z1 (bD 0 _ (sE Z1 Z6) nF)))))) Zi
  ·
   rintro n1 s ⟨aD,a_1,gO,jU,eI,oV,rfl,hm⟩;replace hm:eR (bW n1) aD a_1 gO jU eI oV=some r:=hm;unfold eR at hm;refine AWp.seq' (sN 128 ?_)
   iterate 8 refine pu rfl Zj ?_
   refine fs (AWp.condM hm Z1 (fun _ hm=>?_) (fun _ hm=>?_))
   ·
    refine AWp.skip (bQ (AWp.seqJ (fun s=> ∃(aD:List Int) (a_1:Int) (gO:Int) (jU:Int) (eI:Int) (oV:Int),s=(⟨65,(aF (aF (aF (aF (aF (aF (fun _=>AV.any) 0 (.own i0 0 aD.length)) 1 (.v (.int .i64 a_1))) 6 (.v (.int .i64 gO))) 7 (.adr 3000130 0)) 8 (.v (.int .u64 eI))) 9 (.v (.int .i64 oV))),⟨(upd (upd h0 i0 (.cells 1 (aD.flatMap (ci .u64)) 0)) 3000130 (.cells 1 [.v (.int .u64 jU)] 0)),64⟩⟩:St)∧gZ (bW n1) aD a_1 gO jU eI oV=some r) ?_ ?_))
    ·
     refine AWp.block (sN 192 ?_);obtain ⟨⟨r5,x4⟩,h3,hm⟩:=bnd hm;refine aR.callM Zd Z1 bZu Z1 (aP6 h3 Ze) ?_
     iterate 5 refine pA ?_
     refine fs (AWp.seqJ (fun s=> ∃(aD:List Int) (a_1:Int) (gO:Int) (jU:Int) (eI:Int) (oV:Int) (aDs:Int),s=(⟨65,(aF (aF (aF (aF (aF (aF (aF (fun _=>AV.any) 0 (.own i0 0 aD.length)) 1 (.v (.int .i64 a_1))) 6 (.v (.int .i64 gO))) 7 (.adr 3000130 0)) 8 (.v (.int .u64 eI))) 9 (.v (.int .i64 oV))) 10 (.v (.int .i64 aDs))),⟨(upd (upd h0 i0 (.cells 1 (aD.flatMap (ci .u64)) 0)) 3000130 (.cells 1 [.v (.int .u64 jU)] 0)),64⟩⟩:St)∧dT (bW n1) aD a_1 gO jU eI oV aDs=some r) ?_ ?_)
     ·
      refine sN 256 ?_
      iterate 3 refine pA ?_
      refine fs (AWp.condM hm Z1 (fun _ hm=>?_) (fun _ hm=>?_))
      ·
       refine AWp.reg 64 (N':=320) rfl ?_
       iterate 4 refine pA ?_
       refine aR.fin (oY ?_);refine ⟨_,?_,aD,a_1,gO,x4,eI,oV,(IntKind.i64.wrap ((IntKind.i64.wrap (yU .u64 r5 (IntKind.u64.wrap (eI-1))))-gO)),rfl,hm⟩;exact sD (bD 10 _ Z1 (bD 9 _ Z1 (bD 8 _ Z1 (bD 7 _ Z1 (bD 6 _ Z1 (bD 1 _ Z1 (bD 0 _ (sE Z1 Z6) nF))))))) Zi
      · refine AWp.skip (oY ?_);refine ⟨_,?_,aD,a_1,gO,x4,eI,oV,(IntKind.i64.wrap (yU .u64 r5 (IntKind.u64.wrap (eI-1)))),rfl,hm⟩;exact sD (bD 10 _ Z1 (bD 9 _ Z1 (bD 8 _ Z1 (bD 7 _ Z1 (bD 6 _ Z1 (bD 1 _ Z1 (bD 0 _ (sE Z1 Z6) nF))))))) Zi
     ·
      rintro s ⟨aD,a_1,gO,jU,eI,oV,aDs,rfl,hm⟩;unfold dT at hm;refine AWp.regD 64 mix (by kernel_rfl) (N':=128) rfl ?_
      iterate 10 refine pA ?_
      obtain ⟨x7,h6,hm⟩:=bnd hm;refine pu rfl (iX underlying24 aM8 Z1 Ze Z6 Z1 h6) ?_;refine pu rfl (aAf (CFi .u64) Z1 Ze h6 Zb) ?_
      iterate 2 refine pA ?_
      obtain ⟨x9,h8,hm⟩:=bnd hm;refine pu rfl (iX underlying24 aM8 Z1 Ze Z6 Z1 h8) ?_;refine pu rfl (aAf (CFi .u64) Z1 Ze h8 Zb) ?_;obtain ⟨x11,h10,hm⟩:=bnd hm;refine pu rfl (iX underlying24 aM8 Z1 Ze Z6 Z1 h10) ?_;obtain ⟨l13,h12,hm⟩:=bnd hm;have qh12:=nG h12;refine aR.heap0 (id:=81) rfl (aGl (CFi .u64) aM8 Z1 Z1 Ze rfl h12) ?_;obtain ⟨x15,h14,hm⟩:=bnd hm;refine pu rfl (iX underlying24 aM8 Z1 Ze Z6 Z1 h14) ?_;obtain ⟨l17,h16,hm⟩:=bnd hm;have qh16:=nG h16;refine aR.heap0 (id:=83) rfl (aGl (CFi .u64) aM8 Z1 Z1 Ze rfl h16) ?_;refine aR.fin (jP (oY ?_));refine ⟨_,?_,l17,a_1,gO,jU,eI,oV,rfl,hm⟩;exact sD (bD 9 _ Z1 (bD 8 _ Z1 (bD 7 _ Z1 (bD 6 _ Z1 (bD 1 _ Z1 (bD 0 _ (sE Z1 Z6) nF)))))) Zi
    ·
     rintro s ⟨aD,a_1,gO,jU,eI,oV,rfl,hm⟩;unfold gZ at hm;refine AWp.reg 64 (N':=128) rfl ?_
     iterate 3 refine pA ?_
     refine aR.fin (iA ?_);refine ⟨_,?_,aD,a_1,gO,jU,eI,(IntKind.i64.wrap (oV+1)),rfl,hm⟩;exact sD (bD 9 _ Z1 (bD 8 _ Z1 (bD 7 _ Z1 (bD 6 _ Z1 (bD 1 _ Z1 (bD 0 _ (sE Z1 Z6) nF)))))) Zi
   · refine AWp.exit (kE (jA (iS ?_)));cases hm;exact aW4 (.inl rfl) Tryz.results195 (by intro q hq;simp only [upd];all_goals ((repeat' split)<;>first|rfl|omega)) (fun q hq=>by rw [upd_ne _ _ _ _ om];exact hk q hq) (sR (aI3 (CFi .u64)) hD)
 · refine AWp.skip ?_;cases hm;exact aW4 (.inl rfl) Tryz.results195 (by intro q hq;simp only [upd];all_goals ((repeat' split)<;>first|rfl|omega)) (fun q hq=>by rw [upd_ne _ _ _ _ om];exact hk q hq) (sR (aI3 (CFi .u64)) hD)
def eP(aD:List Int)(a_1:Int)(b_2:Int)(aKk:Int):Option (Int×Int×Int):=
 ((idx aD b_2).bind fun x2=>
 ((idx aD a_1).bind fun x4=>
 ((dC x2 x4).bind fun r6=>
 (bif r6 then
  some (b_2,a_1,(IntKind.i64.wrap (aKk+1)))
 else
  some (a_1,b_2,aKk)))))
theorem mE{aD:List Int}{a_1:Int}{b_2:Int}{aKk:Int}{r:Int×Int×Int}(hm:eP aD a_1 b_2 aKk=some r){H:aH}{i0:Nat}(he:H.ent i0= .cells 1 [.v (.int .i64 aKk)] 0):eK prog 255 [.sl (aD.flatMap (ci .u64)) aD.length false,.v (.int .i64 a_1),.v (.int .i64 b_2),.adr i0 0] H (.tup [.v (.int .i64 r.1),.v (.int .i64 r.2.1)]) (H.put i0 (.cells 1 [.v (.int .i64 r.2.2)] 0)):=by
 refine eK.of_bodyM func255 rfl he ?_;generalize H.ent=h0;simp only [ntmps255,List.length_cons,List.length_nil,Nat.reduceAdd,Nat.reduceSub];unfold eP at hm;refine sN 64 ?_
 iterate 2 refine pA ?_
 refine fs (AWp.seq' (sd mix (by kernel_rfl) (N':=128) rfl ?_))
 iterate 2 refine pA ?_
 obtain ⟨x2,h1,hm⟩:=bnd hm;refine pu rfl (aGn (CFi .u64) Zd underlying24 aM8 Z1 rfl Z1 h1) ?_
 iterate 3 refine pA ?_
 obtain ⟨x4,h3,hm⟩:=bnd hm;refine pu rfl (aGn (CFi .u64) Zd underlying24 aM8 Z1 rfl Z1 h3) ?_;refine pA ?_;obtain ⟨r6,h5,hm⟩:=bnd hm;refine aR.callQ (r:= .v (.bool r6)) Zd Z1 bVh (fun H=>(cV (cV .nil))) (aBy h5) ?_;refine fs (AWp.condM hm Z1 (fun _ hm=>?_) (fun _ hm=>?_))
 ·
  refine sN 192 ?_
  iterate 2 refine pA ?_
  refine pu rfl (hZ Z1 Za Z2) ?_
  iterate 2 refine pA ?_
  refine aR.heap0 (id:=133) rfl (oD (ys:=[.v (.int .i64 (IntKind.i64.wrap (aKk+1)))]) sz3 Z1 Z1 Za rfl (lB rfl) Z9 rfl) ?_;refine fs (sN 256 ?_)
  iterate 4 refine pA ?_
  refine fs (AWp.ret (jC ?_));cases hm;exact bPs (.inr rfl) Tryz.results255 Z1 Z1 Zc
 ·
  refine AWp.skip (bQ (sN 192 ?_))
  iterate 4 refine pA ?_
  refine fs (AWp.ret ?_);cases hm;exact bPs (.inr rfl) Tryz.results255 Z1 Z1 Zc
def fW(aD:List Int)(a_1:Int)(b_2:Int)(c_3:Int)(aRi:Int):Option (Int×Int):=
 ((eP aD a_1 b_2 aRi).bind fun ⟨r3,r4,x2⟩=>
 ((eP aD r4 c_3 x2).bind fun ⟨r7,r8,x6⟩=>
 ((eP aD r3 r7 x6).bind fun ⟨r11,r12,x10⟩=>
 some (r12,x10))))
theorem sL{aD:List Int}{a_1:Int}{b_2:Int}{c_3:Int}{aRi:Int}{r:Int×Int}(hm:fW aD a_1 b_2 c_3 aRi=some r){H:aH}{i0:Nat}(he:H.ent i0= .cells 1 [.v (.int .i64 aRi)] 0):eK prog 242 [.sl (aD.flatMap (ci .u64)) aD.length false,.v (.int .i64 a_1),.v (.int .i64 b_2),.v (.int .i64 c_3),.adr i0 0] H (.v (.int .i64 r.1)) (H.put i0 (.cells 1 [.v (.int .i64 r.2)] 0)):=by
 refine eK.of_bodyM func242 rfl he ?_;generalize H.ent=h0;simp only [ntmps242,List.length_cons,List.length_nil,Nat.reduceAdd,Nat.reduceSub];unfold fW at hm;refine sN 64 (pA ?_);refine fs (sN 128 ?_)
 iterate 4 refine pA ?_
 obtain ⟨⟨r3,r4,x2⟩,h1,hm⟩:=bnd hm;refine aR.callM Zd Z1 bNi Z1 (mE h1 Za) ?_
 iterate 5 refine pA ?_
 refine fs (sN 192 ?_)
 iterate 4 refine pA ?_
 obtain ⟨⟨r7,r8,x6⟩,h5,hm⟩:=bnd hm;refine aR.callM Zd Z1 bNi Z1 (mE h5 Za) ?_
 iterate 5 refine pA ?_
 refine fs (sN 256 ?_)
 iterate 4 refine pA ?_
 obtain ⟨⟨r11,r12,x10⟩,h9,hm⟩:=bnd hm;refine aR.callM Zd Z1 bNi Z1 (mE h9 Za) ?_
 iterate 5 refine pA ?_
 refine fs (sN 320 ?_)
 iterate 2 refine pA ?_
 refine fs (AWp.ret ?_);cases hm;exact bBl (.inr rfl) Tryz.results242 Z1 Zc
def dA(aD:List Int)(a_1:Int)(aRh:Int):Option (Int×Int):=
 ((fW aD (IntKind.i64.wrap (a_1-1)) a_1 (IntKind.i64.wrap (a_1+1)) aRh).bind fun ⟨r3,x2⟩=>
 some (r3,x2))
theorem jL{aD:List Int}{a_1:Int}{aRh:Int}{r:Int×Int}(hm:dA aD a_1 aRh=some r){H:aH}{i0:Nat}(he:H.ent i0= .cells 1 [.v (.int .i64 aRh)] 0):eK prog 241 [.sl (aD.flatMap (ci .u64)) aD.length false,.v (.int .i64 a_1),.adr i0 0] H (.v (.int .i64 r.1)) (H.put i0 (.cells 1 [.v (.int .i64 r.2)] 0)):=by
 refine eK.of_bodyM func241 rfl he ?_;generalize H.ent=h0;simp only [ntmps241,List.length_cons,List.length_nil,Nat.reduceAdd,Nat.reduceSub];unfold dA at hm;refine sN 64 (pA ?_);refine fs (sN 128 ?_)
 iterate 7 refine pA ?_
 obtain ⟨⟨r3,x2⟩,h1,hm⟩:=bnd hm;refine aR.callM Zd Z1 bVj Z1 (sL h1 Za) ?_;refine pA ?_;refine fs (AWp.ret ?_);cases hm;exact bBl (.inr rfl) Tryz.results241 Z1 Zc
attribute [local semireducible] aY
end Go.Proofs.YtkdohhmacfoolaaGreatDoor
