/- Facts. No condition. -/
import Derived.Test.YtkdohhmacfoolaaGreatDoorPfSfP
set_option linter.unusedVariables false
set_option linter.unusedSimpArgs false
set_option maxRecDepth 20000
set_option maxHeartbeats 4000000
namespace Go.Proofs.YtkdohhmacfoolaaGreatDoor
open Go.Proofs.Tryz Go Go.AM
attribute [local irreducible] aW
structure bS where
 Key:Int
 N:Int
deriving DecidableEq
def aAj(e:bS):List AV:=[.v (.int .u64 e.Key),.v (.int .i64 e.N)]
theorem iM:CF aAj 2:=⟨fun _=>rfl,fun a x hx=>by
 simp only [aAj,List.mem_cons,List.not_mem_nil,or_false] at hx;rcases hx with rfl|rfl
 · exact (.v _)
 · exact (.v _),fun _=>rfl⟩
instance:CC aAj 2:=⟨iM⟩
abbrev aEi(e:bS):AV:= .agg [.v (.int .u64 e.Key),vi e.N]
@[go_sem] theorem aSa(e:bS)(r:List AV):aAj e++r= .v (.int .u64 e.Key):: .v (.int .i64 e.N)::r:=rfl
inductive aB where
 |nil
 |mk (ahead:aB) (behind:aB) (thing:bS) (height:Int) (size:Int)
def aB.ahead:aB→aB
 | .nil=>aB.nil
 | .mk ahead behind thing height size=>ahead
def aB.behind:aB→aB
 | .nil=>aB.nil
 | .mk ahead behind thing height size=>behind
def aB.thing:aB→bS
 | .nil=>(bS.mk 0 0)
 | .mk ahead behind thing height size=>thing
def aB.height:aB→Int
 | .nil=>0
 | .mk ahead behind thing height size=>height
def aB.size:aB→Int
 | .nil=>0
 | .mk ahead behind thing height size=>size
def aB.nn:aB→Bool
 | .nil=>false
 | .mk _ _ _ _ _=>true
def aB.av:aB→AV
 | .nil=> .v (.pointer none)
 | .mk ahead behind thing height size=> .ptr [ahead.av,behind.av,.v (.int .u64 thing.Key),.v (.int .i64 thing.N),.v (.int .i64 height),.v (.int .i64 size)]
theorem aB.data:(e:aB)→AM.Data e.av
 | .nil=> .v _
 | .mk ahead behind thing height size=> .ptr _ (fun a hx=>by
  simp only [List.mem_cons,List.not_mem_nil,or_false] at hx;rcases hx with rfl|rfl|rfl|rfl|rfl|rfl
  · exact ahead.data
  · exact behind.data
  · exact (.v _)
  · exact (.v _)
  · exact (.v _)
  · exact (.v _))
theorem aB.av_nn{e:aB}(h:e.nn=true):e.av= .ptr [aB.av e.ahead,aB.av e.behind,.v (.int .u64 e.thing.Key),.v (.int .i64 e.thing.N),.v (.int .i64 e.height),.v (.int .i64 e.size)]:=by
 cases e with
 |nil=>cases h
 |mk ahead behind thing height size=>rfl
theorem aB.isn(e:aB):((!e.nn)=true∧e.av= .v (.pointer none))∨((!e.nn)=false∧ ∃xs,e.av= .ptr xs):=by
 cases e with
 |nil=>exact .inl ⟨rfl,rfl⟩
 |mk ahead behind thing height size=>exact .inr ⟨rfl,_,rfl⟩
theorem aB.cells(e:aB):e.av.cells? =some [e.av]:=by cases e<;>rfl
theorem aB.one(e:aB):e.av.one=true:=by cases e<;>rfl
structure cG where
 s:aB
def aDf(e:cG):List AV:=[aB.av e.s]
theorem aEm:CF aDf 1:=⟨fun _=>rfl,fun a x hx=>by
 simp only [aDf,List.mem_cons,List.not_mem_nil,or_false] at hx;rcases hx with rfl
 · exact (aB.data a.s),fun e=>by unfold aDf;simp only [List.all_cons,List.all_nil,Bool.and_true,aB.one];try rfl⟩
instance:CC aDf 1:=⟨aEm⟩
abbrev xK(e:cG):AV:= .agg [aB.av e.s]
@[go_sem] theorem aS9(e:cG)(r:List AV):aDf e++r=aB.av e.s::r:=rfl
structure aI where
 Used:Bool
 Key:Int
deriving DecidableEq
def aX(e:aI):List AV:=[.v (.bool e.Used),.v (.int .u64 e.Key)]
theorem cZ:CF aX 2:=⟨fun _=>rfl,fun a x hx=>by
 simp only [aX,List.mem_cons,List.not_mem_nil,or_false] at hx;rcases hx with rfl|rfl
 · exact (.v _)
 · exact (.v _),fun _=>rfl⟩
instance:CC aX 2:=⟨cZ⟩
abbrev aQw(e:aI):AV:= .agg [.v (.bool e.Used),vu e.Key]
instance:CE prog 31 aX 2 (aI.mk false 0):=⟨_,underlying31,bR4,bRk,inferInstance,cZ,by decide,by decide⟩
@[go_sem] theorem aR5(e:aI)(r:List AV):aX e++r= .v (.bool e.Used):: .v (.int .u64 e.Key)::r:=rfl
structure aD where
 Graph:aJ
 Slots:List aI
deriving DecidableEq
def aEs(e:aD):List AV:=[.v (.int .i64 e.Graph.Config.N),.v (.int .i64 e.Graph.Config.L),.v (.int .i64 e.Graph.Config.R),.sl (e.Graph.Hashes.flatMap cL) e.Graph.Hashes.length false,.sl (e.Graph.Edges.flatMap aV) e.Graph.Edges.length false,.sl (e.Slots.flatMap aX) e.Slots.length false]
theorem aMk:CF aEs 6:=⟨fun _=>rfl,fun a x hx=>by
 simp only [aEs,List.mem_cons,List.not_mem_nil,or_false] at hx;rcases hx with rfl|rfl|rfl|rfl|rfl|rfl
 · exact (.v _)
 · exact (.v _)
 · exact (.v _)
 · exact (jR.sl _ _ _)
 · exact (cI.sl _ _ _)
 · exact (cZ.sl _ _ _),fun _=>rfl⟩
instance:CC aEs 6:=⟨aMk⟩
abbrev dF(e:aD):AV:= .agg [.v (.int .i64 e.Graph.Config.N),vi e.Graph.Config.L,vi e.Graph.Config.R,vl cL e.Graph.Hashes,vl aV e.Graph.Edges,vl aX e.Slots]
@[go_sem] theorem aR4(e:aD)(r:List AV):aEs e++r= .v (.int .i64 e.Graph.Config.N):: .v (.int .i64 e.Graph.Config.L):: .v (.int .i64 e.Graph.Config.R):: .sl (e.Graph.Hashes.flatMap cL) e.Graph.Hashes.length false:: .sl (e.Graph.Edges.flatMap aV) e.Graph.Edges.length false:: .sl (e.Slots.flatMap aX) e.Slots.length false::r:=rfl
theorem bN7{a0:AV}(a0h:a0.cells? =some [a0]):aAd prog 147 [(0,a0)]=some (.agg [a0]):=by
 unfold aAd;rw [bX1,underlying147];simp only [];rw [(by kernel_rfl:placesOf prog _=some [(0,1)])];simp only [];simp [nR,a0h,aVn,aVo,aSe]
theorem bN8{a0:AV}{a1:AV}{a2_Key:Int}{a2_N:Int}{a3:Int}{a4:Int}(a0h:a0.cells? =some [a0])(a1h:a1.cells? =some [a1]):aAd prog 233 [(0,a0),(1,a1),(2,.agg [.v (.int .u64 a2_Key),.v (.int .i64 a2_N)]),(3,.v (.int .i64 a3)),(4,.v (.int .i64 a4))]=some (.agg [a0,a1,.v (.int .u64 a2_Key),.v (.int .i64 a2_N),.v (.int .i64 a3),.v (.int .i64 a4)]):=by
 unfold aAd;rw [cIv,underlying233];simp only [];rw [(by kernel_rfl:placesOf prog _=some [(0,1),(1,1),(2,2),(4,1),(5,1)])];simp only [];simp [nR,a0h,a1h,aVn,aVo,aSe]
@[go_sem] theorem bEd(xs:List AV):aH prog 147 (.ptr (xs)) 0=some (.ptr xs):=by kernel_rfl
@[go_sem] theorem bEe(xs:List AV):aH prog 233 (.ptr (xs)) 0=some (.ptr xs):=by kernel_rfl
@[go_sem] theorem bEf(x0:AV)(xs:List AV):aH prog 233 (.ptr (x0::xs)) 1=some (.ptr xs):=by kernel_rfl
@[go_sem] theorem bEg(x0:AV)(x1:AV)(xs:List AV):aH prog 233 (.ptr (x0::x1::xs)) 2=some (.ptr xs):=by kernel_rfl
@[go_sem] theorem bEh(x0:AV)(x1:AV)(x2:AV)(x3:AV)(xs:List AV):aH prog 233 (.ptr (x0::x1::x2::x3::xs)) 3=some (.ptr xs):=by kernel_rfl
@[go_sem] theorem bEi(x0:AV)(x1:AV)(x2:AV)(x3:AV)(x4:AV)(xs:List AV):aH prog 233 (.ptr (x0::x1::x2::x3::x4::xs)) 4=some (.ptr xs):=by kernel_rfl
@[go_sem] theorem bIz(xs:List AV):aH prog 96 (.ptr (xs)) 0=some (.ptr xs):=by kernel_rfl
@[go_sem] theorem bEn(i o:Nat):aH prog 147 (.adr i o) 0=some (.adr i (o+0)):=by kernel_rfl
@[go_sem] theorem bEo(i o:Nat):aH prog 194 (.adr i o) 0=some (.adr i (o+0)):=by kernel_rfl
@[go_sem] theorem bEp(i o:Nat):aH prog 194 (.adr i o) 1=some (.adr i (o+1)):=by kernel_rfl
@[go_sem] theorem bJ7(i o:Nat):aH prog 23 (.adr i o) 0=some (.adr i (o+0)):=by kernel_rfl
@[go_sem] theorem bJq(i o:Nat):aH prog 30 (.adr i o) 0=some (.adr i (o+0)):=by kernel_rfl
@[go_sem] theorem bK0(i o:Nat):aH prog 30 (.adr i o) 2=some (.adr i (o+4)):=by kernel_rfl
@[go_sem] theorem bK3(i o:Nat):aH prog 33 (.adr i o) 0=some (.adr i (o+0)):=by kernel_rfl
@[go_sem] theorem bK7(i o:Nat):aH prog 33 (.adr i o) 1=some (.adr i (o+5)):=by kernel_rfl
@[go_sem] theorem bKn(i o:Nat):aH prog 61 (.adr i o) 0=some (.adr i (o+0)):=by kernel_rfl
@[go_sem] theorem bKt(i o:Nat):aH prog 61 (.adr i o) 1=some (.adr i (o+1)):=by kernel_rfl
@[go_sem] theorem bLc(i o:Nat):aH prog 96 (.adr i o) 0=some (.adr i (o+0)):=by kernel_rfl
@[go_sem] theorem bLf(i o:Nat):aH prog 96 (.adr i o) 1=some (.adr i (o+1)):=by kernel_rfl
theorem bF4(i o:Nat)(k:IntKind):lU prog 180 (.adr i o) (.v (.int k 0))=some (.adr i o):=by kernel_rfl
theorem bF6(i o:Nat)(k:IntKind):lU prog 180 (.adr i o) (.v (.int k 1))=some (.adr i (o+1)):=by kernel_rfl
attribute [go_sem] bF4 bF6
@[go_sem] theorem bP5(H:aG)(x:AV)(xs:List AV):bT prog H 145 (.ptr (x::xs))=some x:=by kernel_rfl
@[go_sem] theorem bP6(H:aG)(x0:AV)(xs:List AV):bT prog H 147 (.ptr (x0::xs))=some (.agg [x0]):=by kernel_rfl
@[go_sem] theorem bP8(H:aG)(x0 x1:AV)(xs:List AV):bT prog H 180 (.ptr (x0::x1::xs))=some (.agg [x0,x1]):=by kernel_rfl
@[go_sem] theorem bP9(H:aG)(x0 x1:AV)(xs:List AV):bT prog H 194 (.ptr (x0::x1::xs))=some (.agg [x0,x1]):=by kernel_rfl
@[go_sem] theorem bTn(H:aG)(x:AV)(xs:List AV):bT prog H 28 (.ptr (x::xs))=some x:=by kernel_rfl
@[go_sem] theorem bXx(H:aG)(x:AV)(xs:List AV):bT prog H 3 (.ptr (x::xs))=some x:=by kernel_rfl
@[go_sem] theorem bTt(H:aG)(x0 x1 x2 x3 x4:AV)(xs:List AV):bT prog H 30 (.ptr (x0::x1::x2::x3::x4::xs))=some (.agg [x0,x1,x2,x3,x4]):=by kernel_rfl
@[go_sem] theorem bPe(H:aG)(x:AV)(xs:List AV):bT prog H 300 (.ptr (x::xs))=some x:=by kernel_rfl
@[go_sem] theorem bTy(H:aG)(x:AV)(xs:List AV):bT prog H 31 (.ptr (x::xs))=some x:=by kernel_rfl
@[go_sem] theorem bU2(H:aG)(x0 x1 x2 x3 x4 x5:AV)(xs:List AV):bT prog H 33 (.ptr (x0::x1::x2::x3::x4::x5::xs))=some (.agg [x0,x1,x2,x3,x4,x5]):=by kernel_rfl
@[go_sem] theorem bY4(H:aG)(x:AV)(xs:List AV):bT prog H 4 (.ptr (x::xs))=some x:=by kernel_rfl
@[go_sem] theorem bUb(H:aG)(x:AV)(xs:List AV):bT prog H 40 (.ptr (x::xs))=some x:=by kernel_rfl
@[go_sem] theorem bUk(H:aG)(x0 x1 x2:AV)(xs:List AV):bT prog H 61 (.ptr (x0::x1::x2::xs))=some (.agg [x0,x1,x2]):=by kernel_rfl
@[go_sem] theorem bUu(H:aG)(x0 x1:AV)(xs:List AV):bT prog H 96 (.ptr (x0::x1::xs))=some (.agg [x0,x1]):=by kernel_rfl
@[go_sem] theorem bNt(H:aG)(k:IntKind)(n:Int):mU prog H 3 5 (.v (.int k n))=some (.v (.int .u8 (IntKind.u8.wrap n))):=gK underlying3 underlying5
@[go_sem] theorem bE3(H:aG)(k:IntKind)(n:Int):mU prog H 3 162 (.v (.int k n))=some (.v (.int .u64 (IntKind.u64.wrap n))):=gK underlying3 underlying162
@[go_sem] theorem bE5(H:aG)(k:IntKind)(n:Int):mU prog H 3 300 (.v (.int k n))=some (.v (.int .u64 (IntKind.u64.wrap n))):=gK underlying3 underlying300
@[go_sem] theorem bDy(H:aG)(k:IntKind)(n:Int):mU prog H 162 3 (.v (.int k n))=some (.v (.int .i64 (IntKind.i64.wrap n))):=gK underlying162 underlying3
def nA(n_0:Int):Option (ByteArray):=
 ((aSl n_0 10).bind fun r2=>
 some r2)
theorem aA3{n_0:Int}{r:ByteArray}(hm:nA n_0=some r):bY prog 106 [vu n_0] (.v (.string r)):=by
 refine bd 5 func106 ?_;obtain ⟨r2,h1,hm⟩:=bnd hm;refine W ?_;refine cq (bXo h1) ?_;exact E
instance:Ct prog 106 (K1 prog vu vs 106 nA):=⟨fun hm=>aA3 hm⟩
def pP(aTy:List ByteArray):Option (ByteArray):=
 (bif ((aTy.length:Int)==0) then
  some ⟨#[110,111,110,101]⟩
 else
  ((aKu aTy ⟨#[32]⟩).bind fun r2=>
  some r2))
theorem aE1{aTy:List ByteArray}{r:ByteArray}(hm:pP aTy=some r):bY prog 107 [vl lK aTy] (.v (.string r)):=by
 refine bd 8 func107 ?_;refine W ?_;refine cm hm (fun hm=>?_) fun hm=>?_
 · exact E
 obtain ⟨r2,h1,hm⟩:=bnd hm;refine W ?_;refine cq (bM5 h1) ?_;exact E
instance:Ct prog 107 (K1 prog (vl lK) vs 107 pP):=⟨fun hm=>aE1 hm⟩
def aOx(rec1:ByteArray→List Int→Int→Option (ByteArray))(s_0:ByteArray)(aDw:List Int)(i_4:Int):Option (ByteArray):=
 (bif (decide (i_4<(s_0.size:Int))) then
  ((aD2 s_0 i_4).bind fun b4=>
  ((aD2 ⟨#[48,49,50,51,52,53,54,55,56,57,97,98,99,100,101,102]⟩ (shr .u8 b4 4)).bind fun b6=>
  ((aD2 s_0 i_4).bind fun b8=>
  ((aD2 ⟨#[48,49,50,51,52,53,54,55,56,57,97,98,99,100,101,102]⟩ (yQ .u8 b8 15)).bind fun b10=>
  ((app aDw [b6,b10]).bind fun l12=>
  rec1 s_0 l12 (IntKind.i64.wrap (i_4+1)))))))
 else
  some (jS aDw))
def aGd:Nat→ByteArray→List Int→Int→Option (ByteArray)
 |0=>fun _ _ _=>none
 |n+1=>aOx (aGd n)
def aJ9(s_0:ByteArray):Option (ByteArray):=
 ((mkc 0 (IntKind.i64.wrap (2*(s_0.size:Int))) 0).bind fun l2=>
 aGd aW s_0 l2 0)
theorem bB9{s_0:ByteArray}{r:ByteArray}(hm:aJ9 s_0=some r):bY prog 108 [.v (.string s_0)] (.v (.string r)):=by
 refine bd 30 func108 ?_;obtain ⟨l2,h1,hm⟩:=bnd hm;refine W ?_;refine aK (CFi .u8) h1 ?_;refine W ?_;refine lp (fun m s=> ∃s_0 aDw i_4,s=⟨30,(aF (aF (aF fa 0 (.v (.string s_0))) 3 (.own 1 0 aDw.length)) 4 (vi i_4)),⟨(upd aY 1 (.cells 1 (aDw.flatMap (ci .u8)) 0)),64⟩⟩∧aGd m s_0 aDw i_4=some r) (Lr (fun j=>bif j==1 then 67 else 0)) ?_;rintro n1 s ⟨s_0,aDw,i_4,rfl,hm⟩;refine W ?_;refine cm hm (fun hm=>?_) fun hm=>?_
 · refine W ?_;refine AWp.regD 64 mix (by kernel_rfl) (N':=192) rfl ?_;obtain ⟨b4,h3,hm⟩:=bnd hm;obtain ⟨b6,h5,hm⟩:=bnd hm;have hm:=sb hm h3;obtain ⟨b10,h9,hm⟩:=bnd hm;refine W ?_;refine aL (CFi .u8) [b6,b10] ?_;obtain ⟨l12,h11,hm⟩:=bnd hm;refine W ?_;exact Lr (fun j=>bif j==1 then 140 else 0)
 refine W ?_;refine pu rfl (aMp underlying91 underlying9 underlying5 Z1 Z3 Z6) ?_;exact E
instance:Ct prog 108 (K1 prog vs vs 108 aJ9):=⟨fun hm=>bB9 hm⟩
def aFs(rec1:List ByteArray→List Int→Int→Int→Option (ByteArray))(aMj:List ByteArray)(t36:List Int)(t37:Int)(t38:Int):Option (ByteArray):=
 (bif (decide (t38<t37)) then
  ((idx t36 t38).bind fun x26=>
  ((nA x26).bind fun r28=>
  ((app aMj [r28]).bind fun l30=>
  rec1 l30 t36 t37 (IntKind.i64.wrap (t38+1)))))
 else
  ((pP aMj).bind fun r32=>
  some r32))
def vT:Nat→List ByteArray→List Int→Int→Int→Option (ByteArray)
 |0=>fun _ _ _ _=>none
 |n+1=>aFs (vT n)
def aFt(rec2:List ByteArray→List bG→Int→Int→Option (ByteArray))(aIb:List ByteArray)(t53:List bG)(t54:Int)(t55:Int):Option (ByteArray):=
 (bif (decide (t55<t54)) then
  ((idx t53 t55).bind fun x37=>
  ((nA x37.x0).bind fun r39=>
  ((aUy r39 ⟨#[45]⟩).bind fun s41=>
  ((nA x37.x1).bind fun r43=>
  ((aUy s41 r43).bind fun s45=>
  ((app aIb [s45]).bind fun l47=>
  rec2 l47 t53 t54 (IntKind.i64.wrap (t55+1))))))))
 else
  ((pP aIb).bind fun r49=>
  some r49))
def vU:Nat→List ByteArray→List bG→Int→Int→Option (ByteArray)
 |0=>fun _ _ _ _=>none
 |n+1=>aFt (vU n)
def cU(aCy:GA):Option (ByteArray):=
 ((aGb .i64 36 aCy).bind fun ⟨r5,r6⟩=>
 (bif r6 then
  (bif (r5==0) then
   some ⟨#[111,107]⟩
  else
   ((aHe r5).bind fun r8=>
   ((aUy ⟨#[101,114,114,111,114,32]⟩ r8).bind fun s10=>
   some s10)))
 else
  ((aLx 4 aCy).bind fun ⟨r12,r13⟩=>
  (bif r13 then
   (bif r12 then
    some ⟨#[121,101,115]⟩
   else
    some ⟨#[110,111]⟩)
  else
   ((aGb .i64 3 aCy).bind fun ⟨r18,r19⟩=>
   (bif r19 then
    ((aHe r18).bind fun r21=>
    some r21)
   else
    ((bLi 24 aCy).bind fun ⟨r23,r24⟩=>
    (bif r24 then
     vT aW [] r23 (r23.length:Int) 0
    else
     ((bOk 157 aCy).bind fun ⟨r34,r35⟩=>
     (bif r35 then
      vU aW [] r34 (r34.length:Int) 0
     else
      ((bGv 9 aCy).bind fun ⟨r54,r55⟩=>
      (bif r55 then
       ((aJ9 r54).bind fun r57=>
       some r57)
      else
       some ⟨#[]⟩))))))))))))
theorem aD1{aCy:GA}{r:ByteArray}(hm:cU aCy=some r):bY prog 59 [GA.av aCy] (.v (.string r)):=by
 refine bd 78 func59 ?_;refine W ?_;obtain ⟨⟨r5,r6⟩,h4,hm⟩:=bnd hm;refine pu rfl (aZy underlying36 cAq cIm Z1 h4) ?_;refine W ?_;refine cm hm (fun hm=>?_) fun hm=>?_
 ·
  refine W ?_;refine cm hm (fun hm=>?_) fun hm=>?_
  · exact E
  obtain ⟨r8,h7,hm⟩:=bnd hm;refine W ?_;refine cq (aXu h7) ?_;obtain ⟨s10,h9,hm⟩:=bnd hm;exact E
 refine W ?_;obtain ⟨⟨r12,r13⟩,h11,hm⟩:=bnd hm;refine pu rfl (bI5 underlying4 in4 tz4 Z1 h11) ?_;refine W ?_;refine cm hm (fun hm=>?_) fun hm=>?_
 ·
  refine W ?_;refine cm hm (fun hm=>?_) fun hm=>?_
  · exact E
  exact E
 refine W ?_;obtain ⟨⟨r18,r19⟩,h17,hm⟩:=bnd hm;refine pu rfl (aZy underlying3 in3 tz3 Z1 h17) ?_;refine W ?_;refine cm hm (fun hm=>?_) fun hm=>?_
 · obtain ⟨r21,h20,hm⟩:=bnd hm;refine W ?_;refine cq (aXu h20) ?_;exact E
 refine W ?_;obtain ⟨⟨r23,r24⟩,h22,hm⟩:=bnd hm;refine aR.pop Zd (aT5 Z1 (GA.data _)) (bQg underlying24 cAo cIk Z1 h22) rfl ?_;refine W ?_;refine cm hm (fun hm=>?_) fun hm=>?_
 ·
  refine W ?_;refine lp (fun m s=> ∃aMj t36 t37 t38,s=⟨78,(aF (aF (aF (aF fa 7 (.own 1 0 aMj.length)) 36 (vl (ci .u64) t36)) 37 (vi t37)) 38 (vi t38)),⟨(upd aY 1 (.cells 1 (aMj.flatMap lK) 0)),64⟩⟩∧vT m aMj t36 t37 t38=some r) ?_ ?_
  · refine ⟨_,?_,[],r23,(r23.length:Int),0,rfl,hm⟩;refine St.Le.trans (aAq 7 900007 1 Z1 Z5) ?_;exact cn (fun j=>bif j==1 then 900007 else 0)
  rintro n1 s ⟨aMj,t36,t37,t38,rfl,hm⟩;refine W ?_;refine cm hm (fun hm=>?_) fun hm=>?_
  · obtain ⟨x26,h25,hm⟩:=bnd hm;obtain ⟨r28,h27,hm⟩:=bnd hm;refine W ?_;refine cq (aA3 h27) ?_;refine aL CFs [r28] ?_;obtain ⟨l30,h29,hm⟩:=bnd hm;refine W ?_;exact Lr (fun j=>bif j==1 then 196 else 0)
  obtain ⟨r32,h31,hm⟩:=bnd hm;refine W ?_;refine aR.callB (r:= .v (.string r32)) Zd Z1 bW6 (.cons (lto CFs Z1 Z3 Z6) aU6.nil) bQr (aE1 h31) ?_;exact E
 refine W ?_;obtain ⟨⟨r34,r35⟩,h33,hm⟩:=bnd hm;refine aR.pop Zd (aT5 Z1 (GA.data _)) (bQf underlying157 bWg bWw Z1 h33) rfl ?_;refine W ?_;refine cm hm (fun hm=>?_) fun hm=>?_
 ·
  refine W ?_;refine lp (fun m s=> ∃aIb t53 t54 t55,s=⟨78,(aF (aF (aF (aF fa 11 (.own 1 0 aIb.length)) 53 (vl iZ t53)) 54 (vi t54)) 55 (vi t55)),⟨(upd aY 1 (.cells 1 (aIb.flatMap lK) 0)),64⟩⟩∧vU m aIb t53 t54 t55=some r) ?_ ?_
  · refine ⟨_,?_,[],r34,(r34.length:Int),0,rfl,hm⟩;refine St.Le.trans (aAq 11 900011 1 Z1 Z5) ?_;exact cn (fun j=>bif j==1 then 900011 else 0)
  rintro n2 s ⟨aIb,t53,t54,t55,rfl,hm⟩;refine W ?_;refine cm hm (fun hm=>?_) fun hm=>?_
  · obtain ⟨x37,h36,hm⟩:=bnd hm;refine W ?_;refine AWp.regD 64 mix (by kernel_rfl) (N':=256) rfl ?_;obtain ⟨r39,h38,hm⟩:=bnd hm;refine W ?_;refine cq (aA3 h38) ?_;obtain ⟨s41,h40,hm⟩:=bnd hm;obtain ⟨r43,h42,hm⟩:=bnd hm;refine W ?_;refine cq (aA3 h42) ?_;obtain ⟨s45,h44,hm⟩:=bnd hm;refine W ?_;refine aL CFs [s45] ?_;obtain ⟨l47,h46,hm⟩:=bnd hm;refine W ?_;exact Lr (fun j=>bif j==1 then 202 else 0)
  obtain ⟨r49,h48,hm⟩:=bnd hm;refine W ?_;refine aR.callB (r:= .v (.string r49)) Zd Z1 bW6 (.cons (lto CFs Z1 Z3 Z6) aU6.nil) bQr (aE1 h48) ?_;exact E
 refine W ?_;obtain ⟨⟨r54,r55⟩,h53,hm⟩:=bnd hm;refine pu rfl (bMy underlying9 in9 tz9 Z1 h53) ?_;refine W ?_;refine cm hm (fun hm=>?_) fun hm=>?_
 · obtain ⟨r57,h56,hm⟩:=bnd hm;refine W ?_;refine cq (bB9 h56) ?_;exact E
 exact E
instance:Ct prog 59 (K1 prog GA.av vs 59 cU):=⟨fun hm=>aD1 hm⟩
def nN(cY:ByteArray):Option (Int×Int):=
 (bif (decide (cY=⟨#[110,101,119]⟩)) then
  some ((-1),3)
 else
  (bif (decide (cY=⟨#[112,108,97,110]⟩)) then
   some ((-2),3)
  else
   (bif (decide (cY=⟨#[118,101,114,116,101,120]⟩)) then
    some (1,1)
   else
    (bif (decide (cY=⟨#[100,114,111,112]⟩)) then
     some (2,1)
    else
     (bif (decide (cY=⟨#[101,100,103,101]⟩)) then
      some (3,2)
     else
      (bif (decide (cY=⟨#[99,117,116]⟩)) then
       some (4,2)
      else
       (bif (decide (cY=⟨#[104,97,115]⟩)) then
        some (5,2)
       else
        (bif (decide (cY=⟨#[100,101,103,114,101,101]⟩)) then
         some (6,1)
        else
         (bif (decide (cY=⟨#[110,101,97,114]⟩)) then
          some (7,1)
         else
          (bif (decide (cY=⟨#[99,111,110,110,101,99,116,101,100]⟩)) then
           some (8,2)
          else
           (bif (decide (cY=⟨#[115,105,122,101]⟩)) then
            some (9,1)
           else
            (bif (decide (cY=⟨#[99,111,117,110,116]⟩)) then
             some (10,0)
            else
             (bif (decide (cY=⟨#[109,101,109,98,101,114,115]⟩)) then
              some (11,1)
             else
              (bif (decide (cY=⟨#[102,111,114,101,115,116]⟩)) then
               some (12,0)
              else
               (bif (decide (cY=⟨#[97,117,100,105,116]⟩)) then
                some (13,0)
               else
                (bif (decide (cY=⟨#[115,97,118,101]⟩)) then
                 some (14,0)
                else
                 (bif (decide (cY=⟨#[114,101,115,116,111,114,101]⟩)) then
                  some (15,1)
                 else
                  some (0,0))))))))))))))))))
theorem aRf:K1 prog vs (t2 vi vi) 60 nN:=fun hm=>be 39 func60 (h:=G)
instance:Ct prog 60 (K1 prog vs (t2 vi vi) 60 nN):=⟨aRf⟩
def aJb(rec1:ByteArray→List Int→Int→Option (ByteArray×Int))(cY:ByteArray)(aF1:List Int)(i_5:Int):Option (ByteArray×Int):=
 (bif (decide (i_5<(cY.size:Int))) then
  ((aD2 cY i_5).bind fun b4=>
  ((aEv ⟨#[48,49,50,51,52,53,54,55,56,57,97,98,99,100,101,102]⟩ b4).bind fun r6=>
  ((aD2 cY (IntKind.i64.wrap (i_5+1))).bind fun b8=>
  ((aEv ⟨#[48,49,50,51,52,53,54,55,56,57,97,98,99,100,101,102]⟩ b8).bind fun r10=>
  (bif ((decide (r6<0))||(decide (r10<0))) then
   some (⟨#[]⟩,2)
  else
   ((app aF1 [(IntKind.u8.wrap (bor .i64 (shl .i64 r6 4) r10))]).bind fun l12=>
   rec1 cY l12 (IntKind.i64.wrap (i_5+2))))))))
 else
  some ((jS aF1),0))
def aBm:Nat→ByteArray→List Int→Int→Option (ByteArray×Int)
 |0=>fun _ _ _=>none
 |n+1=>aJb (aBm n)
def aAt(cY:ByteArray):Option (ByteArray×Int):=
 (bif ((Int.tmod (cY.size:Int) 2) !=0) then
  some (⟨#[]⟩,2)
 else
  ((mkc 0 (IntKind.i64.wrap (Int.tdiv (cY.size:Int) 2)) 0).bind fun l2=>
  aBm aW cY l2 0))
theorem bFf{cY:ByteArray}{r:ByteArray×Int}(hm:aAt cY=some r):bY prog 61 [.v (.string cY)] (.tup [.v (.string r.1),vi r.2]):=by
 refine bd 47 func61 ?_;refine W ?_;refine cm hm (fun hm=>?_) fun hm=>?_
 · exact E
 obtain ⟨l2,h1,hm⟩:=bnd hm;refine W ?_;refine aK (CFi .u8) h1 ?_;refine W ?_;refine lp (fun m s=> ∃cY aF1 i_5,s=⟨47,(aF (aF (aF fa 0 (.v (.string cY))) 4 (.own 1 0 aF1.length)) 5 (vi i_5)),⟨(upd aY 1 (.cells 1 (aF1.flatMap (ci .u8)) 0)),64⟩⟩∧aBm m cY aF1 i_5=some r) (Lr (fun j=>bif j==1 then 131 else 0)) ?_;rintro n1 s ⟨cY,aF1,i_5,rfl,hm⟩;refine W ?_;refine cm hm (fun hm=>?_) fun hm=>?_
 ·
  obtain ⟨b4,h3,hm⟩:=bnd hm;obtain ⟨r6,h5,hm⟩:=bnd hm;refine W ?_;refine cq (aJ4 h5) ?_;obtain ⟨b8,h7,hm⟩:=bnd hm;obtain ⟨r10,h9,hm⟩:=bnd hm;refine W ?_;refine cq (aJ4 h9) ?_;refine W ?_;refine cm hm (fun hm=>?_) fun hm=>?_
  · exact E
  refine W ?_;refine aL (CFi .u8) [(IntKind.u8.wrap (bor .i64 (shl .i64 r6 4) r10))] ?_;obtain ⟨l12,h11,hm⟩:=bnd hm;refine W ?_;exact Lr (fun j=>bif j==1 then 327 else 0)
 refine W ?_;refine pu rfl (aMp underlying91 underlying9 underlying5 Z1 Z3 Z6) ?_;exact E
instance:Ct prog 61 (K1 prog vs (t2 vs vi) 61 aAt):=⟨fun hm=>bFf hm⟩
def rD(n_0:Int):Option (Bool):=
 some ((decide (1≤n_0))&&(decide (n_0≤1024)))
theorem aZh:K1 prog vi vb 76 rD:=fun hm=>be 9 func76 (h:=G)
instance:Ct prog 76 (K1 prog vi vb 76 rD):=⟨aZh⟩
def kK(s_0:aB):Option (Int):=
 (bif (!s_0.nn) then
  some 0
 else
  ((chk s_0.nn).bind fun _=>
  some s_0.size))
theorem uS:K1 prog aB.av vi 156 kK:=fun hm=>be 9 func156 (h:=G)
instance:Ct prog 156 (K1 prog aB.av vi 156 kK):=⟨uS⟩
def aI4(rec1:aB→Int→bS→Option (bS×Bool))(s_0:aB)(i_1:Int)(t4:bS):Option (bS×Bool):=
 ((chk s_0.nn).bind fun _=>
 ((kK s_0.ahead).bind fun r5=>
 (bif (decide (i_1<r5)) then
  ((chk s_0.nn).bind fun _=>
  rec1 s_0.ahead i_1 t4)
 else
  (bif (decide (r5<i_1)) then
   ((chk s_0.nn).bind fun _=>
   rec1 s_0.behind (IntKind.i64.wrap (i_1-(IntKind.i64.wrap (r5+1)))) t4)
  else
   ((chk s_0.nn).bind fun _=>
   some (s_0.thing,true))))))
def aA4:Nat→aB→Int→bS→Option (bS×Bool)
 |0=>fun _ _ _=>none
 |n+1=>aI4 (aA4 n)
def qJ(s_0:aB)(i_1:Int):Option (bS×Bool):=
 ((eG ((decide (i_1<0))==false) 0 (kK s_0)).bind fun r2=>
 (bif ((decide (i_1<0))||(decide (r2≤i_1))) then
  some ((bS.mk 0 0),false)
 else
  aA4 aW s_0 i_1 (bS.mk 0 0)))
theorem aF7:K2 prog aB.av vi (t2 aEi vb) 119 qJ:=by
 intro s_0 i_1 r hm
 let I1:=((fun m s=> ∃s_0 i_1 t4,s=⟨46,(aF (aF (aF fa 0 (aB.av s_0)) 1 (vi i_1)) 4 (.adr 1 0)),⟨(upd aY 1 (.cells 1 [vu t4.Key,vi t4.N] 0)),64⟩⟩∧aA4 m s_0 i_1 t4=some r):Nat→St→Prop)
 exact be 46 func119 (h:=G)
instance:Ct prog 119 (K2 prog aB.av vi (t2 aEi vb) 119 qJ):=⟨aF7⟩
def zA(i_0:Int)(t1:cG)(t2:Int):Option (Bool):=
 ((qJ t1.s i_0).bind fun ⟨r2,r3⟩=>
 some (decide (t2≤r2.Key)))
theorem aXa{i_0:Int}{t1:cG}{t2:Int}{r:Bool}(hm:zA i_0 t1 t2=some r):bY prog 158 [vi i_0,.ptr [aB.av t1.s],.ptr [vu t2]] (vb r):=by
 refine bd 18 func158 ?_;refine W ?_;obtain ⟨⟨r2,r3⟩,h1,hm⟩:=bnd hm;refine cq (aF7 h1) ?_;exact E
def aFw(f_1:(Int→Option (Bool)))(rec1:Int→Int→Option (Int))(i_5:Int)(j_6:Int):Option (Int):=
 (bif (decide (i_5<j_6)) then
  ((f_1 (IntKind.i64.wrap (shr .u64 (IntKind.u64.wrap (IntKind.i64.wrap (i_5+j_6))) 1))).bind fun r2=>
  (bif (!r2) then
   rec1 (IntKind.i64.wrap ((IntKind.i64.wrap (shr .u64 (IntKind.u64.wrap (IntKind.i64.wrap (i_5+j_6))) 1))+1)) j_6
  else
   rec1 i_5 (IntKind.i64.wrap (shr .u64 (IntKind.u64.wrap (IntKind.i64.wrap (i_5+j_6))) 1))))
 else
  some i_5)
def wC(f_1:(Int→Option (Bool))):Nat→Int→Int→Option (Int)
 |0=>fun _ _=>none
 |n+1=>aFw f_1 (wC f_1 n)
def aI7(n_0:Int)(f_1:(Int→Option (Bool))):Option (Int):=
 wC f_1 aW 0 n_0
theorem aZa{n_0:Int}{f_1:(Int→Option (Bool))}{r:Int}(hm:aI7 n_0 f_1=some r){aN6:FuncId}{aCn:List AV}(aSn: ∀a,a∈aCn→AM.Data a)(bEx:(Program.funcs prog)[aN6]?.any (fun fn=>fn.body.isSome&&fn.name != "runtime.NumGoroutine")=true)(bEy: ∀ {x0 r},f_1 x0=some r→bY prog aN6 ([vi x0]++aCn) (vb r)):bY prog 157 [vi n_0,.clo (.func aN6) [] aCn] (vi r):=by
 refine bd 26 func157 ?_;refine W ?_;refine lp (fun m s=> ∃i_5 j_6,s=⟨26,(aF (aF (aF fa 1 (.clo (.func aN6) [] aCn)) 5 (vi i_5)) 6 (vi j_6)),⟨aY,64⟩⟩∧wC f_1 m i_5 j_6=some r) L ?_;rintro n1 s ⟨i_5,j_6,rfl,hm⟩;refine W ?_;refine cm hm (fun hm=>?_) fun hm=>?_
 ·
  obtain ⟨r2,h1,hm⟩:=bnd hm;refine W ?_;refine aR.callQC (r:= .v (.bool r2)) Zd Z1 aSn bEx (fun H=>(cV .nil)) (bEy h1) ?_;refine W ?_;refine cm hm (fun hm=>?_) fun hm=>?_
  · exact L
  exact L
 exact E
def aAk(d_0:cG)(kC:Int):Option (Int):=
 ((kK d_0.s).bind fun r2=>
 ((aI7 r2 (fun x0=>zA x0 d_0 kC)).bind fun r4=>
 some r4))
theorem aSh{d_0:cG}{kC:Int}{r:Int}(hm:aAk d_0 kC=some r):bY prog 120 [.agg [aB.av d_0.s],vu kC] (vi r):=by
 refine bd 10 func120 ?_;refine S1 ?_;refine aR.pop Zd (aT5 Z1 (.agg _ (aEm.dat d_0))) (aYn (ys:=[aB.av d_0.s]) Z1 (fun H=>(.cons (.data _ (aB.data d_0.s)) .nil))) rfl ?_;refine aR.pop Zd (aT5 Z1 (.v _)) (aYn (ys:=[.v (.int .u64 kC)]) Z1 (fun H=>(.cons (.data _ (.v _)) .nil))) rfl ?_;obtain ⟨r2,h1,hm⟩:=bnd hm;refine W ?_;refine cq (uS h1) ?_;obtain ⟨r4,h3,hm⟩:=bnd hm;refine W ?_;refine aR.callQ (r:= .v (.int .i64 r4)) Zd Z1 cA3 (fun H=>(cV (.cons (td Z1 (bNx (sJ (.ptr _ (aEm.dat d_0)) (sJ (.ptr _ ((CFi .u64).dat kC)) aLv)))) .nil))) (aZa h3 (sJ (.ptr _ (aEm.dat d_0)) (sJ (.ptr _ ((CFi .u64).dat kC)) aLv)) cA4 (fun h=>aXa h)) ?_;exact E
instance:Ct prog 120 (K2 prog xK vu vi 120 aAk):=⟨fun hm=>aSh hm⟩
def xP(d_0:cG)(kC:Int):Option (Int×Bool):=
 ((aAk d_0 kC).bind fun r2=>
 ((qJ d_0.s r2).bind fun ⟨r4,r5⟩=>
 (bif ((!r5)||(r4.Key !=kC)) then
  some (0,false)
 else
  some (r4.N,true))))
theorem aOq:K2 prog xK vu (t2 vi vb) 79 xP:=fun hm=>be 27 func79 (h:=G)
instance:Ct prog 79 (K2 prog xK vu (t2 vi vb) 79 xP):=⟨aOq⟩
def dJ(s_0:aB):Option (Int):=
 (bif (!s_0.nn) then
  some 0
 else
  ((chk s_0.nn).bind fun _=>
  some s_0.height))
theorem lV:K1 prog aB.av vi 236 dJ:=fun hm=>be 9 func236 (h:=G)
instance:Ct prog 236 (K1 prog aB.av vi 236 dJ):=⟨lV⟩
def eW(bZ:aB)(fY:bS)(bN:aB):Option (aB):=
 ((dJ bZ).bind fun r2=>
 ((dJ bN).bind fun r4=>
 ((kK bZ).bind fun r6=>
 ((kK bN).bind fun r8=>
 some (aB.mk bZ bN fY (IntKind.i64.wrap ((if r2<r4 then r4 else r2)+1)) (IntKind.i64.wrap ((IntKind.i64.wrap (r6+1))+r8)))))))
theorem aFv{bZ:aB}{fY:bS}{bN:aB}{r:aB}(hm:eW bZ fY bN=some r):bY prog 192 [aB.av bZ,.agg [vu fY.Key,vi fY.N],aB.av bN] (aB.av r):=by
 refine bd 24 func192 ?_;obtain ⟨r2,h1,hm⟩:=bnd hm;refine W ?_;refine cq (lV h1) ?_;obtain ⟨r4,h3,hm⟩:=bnd hm;refine W ?_;refine cq (lV h3) ?_;obtain ⟨r6,h5,hm⟩:=bnd hm;refine W ?_;refine cq (uS h5) ?_;obtain ⟨r8,h7,hm⟩:=bnd hm;refine W ?_;refine cq (uS h7) ?_;refine W ?_;refine pu rfl (by simp only [go_sem,Nat.reduceBEq];exact bN8 (aB.cells _) (aB.cells _)) ?_;refine aR.pop Zd (aT5 Z1 (.agg _ (sJ (aB.data bZ) (sJ (aB.data bN) (sJ (.v _) (sJ (.v _) (sJ (.v _) (sJ (.v _) aLv)))))))) (aYn (ys:=[aB.av ((aB.mk bZ bN fY (IntKind.i64.wrap ((if r2<r4 then r4 else r2)+1)) (IntKind.i64.wrap ((IntKind.i64.wrap (r6+1))+r8))).ahead),aB.av ((aB.mk bZ bN fY (IntKind.i64.wrap ((if r2<r4 then r4 else r2)+1)) (IntKind.i64.wrap ((IntKind.i64.wrap (r6+1))+r8))).behind),.v (.int .u64 (((aB.mk bZ bN fY (IntKind.i64.wrap ((if r2<r4 then r4 else r2)+1)) (IntKind.i64.wrap ((IntKind.i64.wrap (r6+1))+r8))).thing).Key)),.v (.int .i64 (((aB.mk bZ bN fY (IntKind.i64.wrap ((if r2<r4 then r4 else r2)+1)) (IntKind.i64.wrap ((IntKind.i64.wrap (r6+1))+r8))).thing).N)),.v (.int .i64 ((aB.mk bZ bN fY (IntKind.i64.wrap ((if r2<r4 then r4 else r2)+1)) (IntKind.i64.wrap ((IntKind.i64.wrap (r6+1))+r8))).height)),.v (.int .i64 ((aB.mk bZ bN fY (IntKind.i64.wrap ((if r2<r4 then r4 else r2)+1)) (IntKind.i64.wrap ((IntKind.i64.wrap (r6+1))+r8))).size))]) Z1 (fun H=>(.cons (.data _ (aB.data bZ)) (.cons (.data _ (aB.data bN)) (.cons (.data _ (.v _)) (.cons (.data _ (.v _)) (.cons (.data _ (.v _)) (.cons (.data _ (.v _)) .nil)))))))) rfl ?_;exact E
instance:Ct prog 192 (K3 prog aB.av aEi aB.av aB.av 192 eW):=⟨fun hm=>aFv hm⟩
def nP(bZ:aB)(fY:bS)(bN:aB):Option (aB):=
 ((dJ bZ).bind fun r2=>
 ((dJ bN).bind fun r4=>
 (bif (decide ((IntKind.i64.wrap (r4+1))<r2)) then
  ((chk bZ.nn).bind fun _=>
  ((dJ bZ.ahead).bind fun r7=>
  ((chk bZ.nn).bind fun _=>
  ((dJ bZ.behind).bind fun r10=>
  (bif (decide (r10≤r7)) then
   ((chk bZ.nn).bind fun _=>
   ((chk bZ.nn).bind fun _=>
   ((chk bZ.nn).bind fun _=>
   ((eW bZ.behind fY bN).bind fun r15=>
   ((eW bZ.ahead bZ.thing r15).bind fun r17=>
   some r17)))))
  else
   ((chk bZ.nn).bind fun _=>
   ((chk bZ.nn).bind fun _=>
   ((chk bZ.nn).bind fun _=>
   ((chk bZ.behind.nn).bind fun _=>
   ((eW bZ.ahead bZ.thing bZ.behind.ahead).bind fun r23=>
   ((chk bZ.behind.nn).bind fun _=>
   ((chk bZ.behind.nn).bind fun _=>
   ((eW bZ.behind.behind fY bN).bind fun r27=>
   ((eW r23 bZ.behind.thing r27).bind fun r29=>
   some r29))))))))))))))
 else
  ((dJ bN).bind fun r31=>
  ((dJ bZ).bind fun r33=>
  (bif (decide ((IntKind.i64.wrap (r33+1))<r31)) then
   ((chk bN.nn).bind fun _=>
   ((dJ bN.behind).bind fun r36=>
   ((chk bN.nn).bind fun _=>
   ((dJ bN.ahead).bind fun r39=>
   (bif (decide (r39≤r36)) then
    ((chk bN.nn).bind fun _=>
    ((eW bZ fY bN.ahead).bind fun r42=>
    ((chk bN.nn).bind fun _=>
    ((chk bN.nn).bind fun _=>
    ((eW r42 bN.thing bN.behind).bind fun r46=>
    some r46)))))
   else
    ((chk bN.nn).bind fun _=>
    ((chk bN.ahead.nn).bind fun _=>
    ((eW bZ fY bN.ahead.ahead).bind fun r50=>
    ((chk bN.ahead.nn).bind fun _=>
    ((chk bN.ahead.nn).bind fun _=>
    ((chk bN.nn).bind fun _=>
    ((chk bN.nn).bind fun _=>
    ((eW bN.ahead.behind bN.thing bN.behind).bind fun r56=>
    ((eW r50 bN.ahead.thing r56).bind fun r58=>
    some r58))))))))))))))
  else
   ((eW bZ fY bN).bind fun r60=>
   some r60)))))))
theorem aCg:K3 prog aB.av aEi aB.av aB.av 237 nP:=fun hm=>be 139 func237 (h:=G)
instance:Ct prog 237 (K3 prog aB.av aEi aB.av aB.av 237 nP):=⟨aCg⟩
def rH(recf:aB→bS→aB→Option (aB))(bZ:aB)(fY:bS)(bN:aB):Option (aB):=
 ((dJ bZ).bind fun r2=>
 ((dJ bN).bind fun r4=>
 (bif (decide ((IntKind.i64.wrap (r4+1))<r2)) then
  ((chk bZ.nn).bind fun _=>
  ((chk bZ.nn).bind fun _=>
  ((chk bZ.nn).bind fun _=>
  ((recf bZ.behind fY bN).bind fun r9=>
  ((nP bZ.ahead bZ.thing r9).bind fun r11=>
  some r11)))))
 else
  ((dJ bN).bind fun r13=>
  ((dJ bZ).bind fun r15=>
  (bif (decide ((IntKind.i64.wrap (r15+1))<r13)) then
   ((chk bN.nn).bind fun _=>
   ((recf bZ fY bN.ahead).bind fun r18=>
   ((chk bN.nn).bind fun _=>
   ((chk bN.nn).bind fun _=>
   ((nP r18 bN.thing bN.behind).bind fun r22=>
   some r22)))))
  else
   ((eW bZ fY bN).bind fun r24=>
   some r24)))))))
def nO:Nat→aB→bS→aB→Option (aB)
 |0=>fun _ _ _=>none
 |n+1=>rH (nO n)
def rI(bZ:aB)(fY:bS)(bN:aB):Option (aB):=nO aW bZ fY bN
theorem aPd: ∀(nn:Nat) {bZ:aB} {fY:bS} {bN:aB} {r:aB} (hm:nO nn bZ fY bN=some r),bY prog 191 [aB.av bZ,.agg [.v (.int .u64 fY.Key),.v (.int .i64 fY.N)],aB.av bN] (aB.av r):=by
 intro nn
 induction nn with
 |zero=>
  intro bZ fY bN r hm;replace hm:none=some r:=hm;cases hm
 |succ nn ih=>
  intro bZ fY bN r hm;replace hm:rH (nO nn) bZ fY bN=some r:=hm;refine bY.of_body func191 rfl ?_;simp only [ntmps191,List.length_cons,List.length_nil,Nat.reduceAdd,Nat.reduceSub,iO];unfold rH at hm;refine sN 64 (hp (id:=0) rfl rfl (aVi Z1 Z5) ?_);refine pA ?_;refine fs (AWp.seq' (AWp.block (sN 128 (pA ?_))));obtain ⟨r2,h1,hm⟩:=bnd hm;refine aR.callQ (r:= .v (.int .i64 r2)) Zd Z1 bGt (fun H=>(cD (aB.data _) .nil)) (lV h1) ?_;refine pA ?_;obtain ⟨r4,h3,hm⟩:=bnd hm;refine aR.callQ (r:= .v (.int .i64 r4)) Zd Z1 bGt (fun H=>(cD (aB.data _) .nil)) (lV h3) ?_
  iterate 3 refine pA ?_
  refine fs (AWp.condM hm Z1 (fun _ hm=>?_) (fun _ hm=>?_))
  ·
   refine sd mix (by kernel_rfl) (N':=192) rfl ?_;refine pA ?_;obtain ⟨_,h5,hm⟩:=bnd hm;refine pu rfl (yN Z1 (aB.av_nn (vF h5))) ?_
   iterate 3 refine pA ?_
   obtain ⟨_,h6,hm⟩:=bnd hm;refine pu rfl (yN Z1 (aB.av_nn (vF h6))) ?_
   iterate 3 refine pA ?_
   obtain ⟨_,h7,hm⟩:=bnd hm;refine pu rfl (yN Z1 (aB.av_nn (vF h7))) ?_
   iterate 2 refine pA ?_
   refine pu rfl (hZ Z1 Z3 Z2) ?_;refine pA ?_;obtain ⟨r9,h8,hm⟩:=bnd hm;refine aR.callQ (r:=aB.av r9) Zd Z1 bGs (fun H=>(cD (aB.data _) (cD (.agg _ (iM.dat _)) (cD (aB.data _) .nil)))) (ih h8) ?_;obtain ⟨r11,h10,hm⟩:=bnd hm;refine aR.callQ (r:=aB.av r11) Zd Z1 bWc (fun H=>(cD (aB.data _) (cD (.agg _ (iM.dat _)) (cD (aB.data _) .nil)))) (aCg h10) ?_;refine pA ?_;refine fs (AWp.ret (sK (jF ?_)));cases hm;exact aNn (.inr rfl) Tryz.results191 (td Z1 (aB.data _))
  ·
   refine sN 192 (pA ?_);obtain ⟨r13,h12,hm⟩:=bnd hm;refine aR.callQ (r:= .v (.int .i64 r13)) Zd Z1 bGt (fun H=>(cD (aB.data _) .nil)) (lV h12) ?_;refine pA ?_;obtain ⟨r15,h14,hm⟩:=bnd hm;refine aR.callQ (r:= .v (.int .i64 r15)) Zd Z1 bGt (fun H=>(cD (aB.data _) .nil)) (lV h14) ?_
   iterate 3 refine pA ?_
   refine fs (AWp.condM hm Z1 (fun _ hm=>?_) (fun _ hm=>?_))
   ·
    refine sd mix (by kernel_rfl) (N':=256) rfl ?_;refine pA ?_;refine pu rfl (hZ Z1 Z3 Z2) ?_;refine pA ?_;obtain ⟨_,h16,hm⟩:=bnd hm;refine pu rfl (yN Z1 (aB.av_nn (vF h16))) ?_
    iterate 2 refine pA ?_
    obtain ⟨r18,h17,hm⟩:=bnd hm;refine aR.callQ (r:=aB.av r18) Zd Z1 bGs (fun H=>(cD (aB.data _) (cD (.agg _ (iM.dat _)) (cD (aB.data _) .nil)))) (ih h17) ?_;refine pA ?_;obtain ⟨_,h19,hm⟩:=bnd hm;refine pu rfl (yN Z1 (aB.av_nn (vF h19))) ?_
    iterate 3 refine pA ?_
    obtain ⟨_,h20,hm⟩:=bnd hm;refine pu rfl (yN Z1 (aB.av_nn (vF h20))) ?_
    iterate 2 refine pA ?_
    obtain ⟨r22,h21,hm⟩:=bnd hm;refine aR.callQ (r:=aB.av r22) Zd Z1 bWc (fun H=>(cD (aB.data _) (cD (.agg _ (iM.dat _)) (cD (aB.data _) .nil)))) (aCg h21) ?_;refine pA ?_;refine fs (AWp.ret (sK (jF ?_)));cases hm;exact aNn (.inr rfl) Tryz.results191 (td Z1 (aB.data _))
   · refine AWp.skip (jT (bQ (sN 256 (pA ?_))));refine pu rfl (hZ Z1 Z3 Z2) ?_;refine pA ?_;obtain ⟨r24,h23,hm⟩:=bnd hm;refine aR.callQ (r:=aB.av r24) Zd Z1 bWa (fun H=>(cD (aB.data _) (cD (.agg _ (iM.dat _)) (cD (aB.data _) .nil)))) (aFv h23) ?_;refine pA ?_;refine fs (AWp.ret ?_);cases hm;exact aNn (.inr rfl) Tryz.results191 (td Z1 (aB.data _))
theorem aCf{bZ:aB}{fY:bS}{bN:aB}{r:aB}(hm:rI bZ fY bN=some r):bY prog 191 [aB.av bZ,.agg [.v (.int .u64 fY.Key),.v (.int .i64 fY.N)],aB.av bN] (aB.av r):=aPd aW hm
def tL(recf:aB→Int→Option (aB×aB))(s_0:aB)(aC6:Int):Option (aB×aB):=
 (bif (decide (aC6≤0)) then
  some (aB.nil,s_0)
 else
  ((kK s_0).bind fun r2=>
  (bif (decide (r2≤aC6)) then
   some (s_0,aB.nil)
  else
   ((chk s_0.nn).bind fun _=>
   ((kK s_0.ahead).bind fun r5=>
   (bif (decide (aC6≤r5)) then
    ((chk s_0.nn).bind fun _=>
    ((recf s_0.ahead aC6).bind fun ⟨r8,r9⟩=>
    ((chk s_0.nn).bind fun _=>
    ((chk s_0.nn).bind fun _=>
    ((rI r9 s_0.thing s_0.behind).bind fun r13=>
    some (r8,r13))))))
   else
    ((chk s_0.nn).bind fun _=>
    ((recf s_0.behind (IntKind.i64.wrap ((IntKind.i64.wrap (aC6-r5))-1))).bind fun ⟨r16,r17⟩=>
    ((chk s_0.nn).bind fun _=>
    ((chk s_0.nn).bind fun _=>
    ((rI s_0.ahead s_0.thing r16).bind fun r21=>
    some (r21,r17))))))))))))
def pY:Nat→aB→Int→Option (aB×aB)
 |0=>fun _ _=>none
 |n+1=>tL (pY n)
def tM(s_0:aB)(aC6:Int):Option (aB×aB):=pY aW s_0 aC6
theorem aRk: ∀(nn:Nat) {s_0:aB} {aC6:Int} {r:aB×aB} (hm:pY nn s_0 aC6=some r),bY prog 153 [aB.av s_0,.v (.int .i64 aC6)] (.tup [aB.av r.1,aB.av r.2]):=by
 intro nn
 induction nn with
 |zero=>
  intro s_0 aC6 r hm;replace hm:none=some r:=hm;cases hm
 |succ nn ih=>
  intro s_0 aC6 r hm;replace hm:tL (pY nn) s_0 aC6=some r:=hm;refine bY.of_body func153 rfl ?_;simp only [ntmps153,List.length_cons,List.length_nil,Nat.reduceAdd,Nat.reduceSub,iO];unfold tL at hm;refine sN 64 ?_
  iterate 2 refine pA ?_
  refine fs (AWp.seq' (sN 128 ?_))
  iterate 2 refine pA ?_
  refine fs (AWp.condM hm Z1 (fun _ hm=>?_) (fun _ hm=>?_))
  ·
   refine sN 192 ?_
   iterate 3 refine pA ?_
   refine fs (AWp.ret (jF ?_));cases hm;exact aGo (.inr rfl) Tryz.results153 (td Z1 (aB.data _)) (td Z1 (aB.data _))
  ·
   refine AWp.skip (bQ (AWp.seq' (sN 192 ?_)))
   iterate 2 refine pA ?_
   obtain ⟨r2,h1,hm⟩:=bnd hm;refine aR.callQ (r:= .v (.int .i64 r2)) Zd Z1 bW9 (fun H=>(cD (aB.data _) .nil)) (uS h1) ?_;refine pA ?_;refine fs (AWp.condM hm Z1 (fun _ hm=>?_) (fun _ hm=>?_))
   ·
    refine sN 256 ?_
    iterate 3 refine pA ?_
    refine fs (AWp.ret (jF ?_));cases hm;exact aGo (.inr rfl) Tryz.results153 (td Z1 (aB.data _)) (td Z1 (aB.data _))
   ·
    refine AWp.skip (bQ (sN 256 (pA ?_)));obtain ⟨_,h3,hm⟩:=bnd hm;refine pu rfl (yN Z1 (aB.av_nn (vF h3))) ?_
    iterate 2 refine pA ?_
    obtain ⟨r5,h4,hm⟩:=bnd hm;refine aR.callQ (r:= .v (.int .i64 r5)) Zd Z1 bW9 (fun H=>(cD (aB.data _) .nil)) (uS h4) ?_;refine pA ?_;refine fs (AWp.seq' (sN 320 ?_))
    iterate 3 refine pA ?_
    refine fs (AWp.condM hm Z1 (fun _ hm=>?_) (fun _ hm=>?_))
    ·
     refine sN 384 (pA ?_);obtain ⟨_,h6,hm⟩:=bnd hm;refine pu rfl (yN Z1 (aB.av_nn (vF h6))) ?_
     iterate 3 refine pA ?_
     obtain ⟨⟨r8,r9⟩,h7,hm⟩:=bnd hm;refine aR.callQ (r:= .tup [aB.av r8,aB.av r9]) Zd Z1 bW8 (fun H=>(cD (aB.data _) (cV .nil))) (ih h7) ?_
     iterate 5 refine pA ?_
     refine fs (sd mix (by kernel_rfl) (N':=448) rfl ?_)
     iterate 3 refine pA ?_
     obtain ⟨_,h10,hm⟩:=bnd hm;refine pu rfl (yN Z1 (aB.av_nn (vF h10))) ?_
     iterate 3 refine pA ?_
     obtain ⟨_,h11,hm⟩:=bnd hm;refine pu rfl (yN Z1 (aB.av_nn (vF h11))) ?_
     iterate 2 refine pA ?_
     obtain ⟨r13,h12,hm⟩:=bnd hm;refine aR.callQ (r:=aB.av r13) Zd Z1 bGs (fun H=>(cD (aB.data _) (cD (.agg _ (iM.dat _)) (cD (aB.data _) .nil)))) (aCf h12) ?_
     iterate 2 refine pA ?_
     refine fs (AWp.ret (jF ?_));cases hm;exact aGo (.inr rfl) Tryz.results153 (td Z1 (aB.data _)) (td Z1 (aB.data _))
    ·
     refine AWp.skip (bQ (sN 384 (pA ?_)));obtain ⟨_,h14,hm⟩:=bnd hm;refine pu rfl (yN Z1 (aB.av_nn (vF h14))) ?_
     iterate 6 refine pA ?_
     obtain ⟨⟨r16,r17⟩,h15,hm⟩:=bnd hm;refine aR.callQ (r:= .tup [aB.av r16,aB.av r17]) Zd Z1 bW8 (fun H=>(cD (aB.data _) (cV .nil))) (ih h15) ?_
     iterate 5 refine pA ?_
     refine fs (sd mix (by kernel_rfl) (N':=448) rfl ?_);refine pA ?_;obtain ⟨_,h18,hm⟩:=bnd hm;refine pu rfl (yN Z1 (aB.av_nn (vF h18))) ?_
     iterate 3 refine pA ?_
     obtain ⟨_,h19,hm⟩:=bnd hm;refine pu rfl (yN Z1 (aB.av_nn (vF h19))) ?_
     iterate 3 refine pA ?_
     obtain ⟨r21,h20,hm⟩:=bnd hm;refine aR.callQ (r:=aB.av r21) Zd Z1 bGs (fun H=>(cD (aB.data _) (cD (.agg _ (iM.dat _)) (cD (aB.data _) .nil)))) (aCf h20) ?_
     iterate 3 refine pA ?_
     refine fs (AWp.ret ?_);cases hm;exact aGo (.inr rfl) Tryz.results153 (td Z1 (aB.data _)) (td Z1 (aB.data _))
theorem aE5{s_0:aB}{aC6:Int}{r:aB×aB}(hm:tM s_0 aC6=some r):bY prog 153 [aB.av s_0,.v (.int .i64 aC6)] (.tup [aB.av r.1,aB.av r.2]):=aRk aW hm
def tK(recf:(List bS)→Option (aB))(l_0:List bS):Option (aB):=
 (bif ((l_0.length:Int)==0) then
  some aB.nil
 else
  ((slc l_0 0 (IntKind.i64.wrap (Int.tdiv (l_0.length:Int) 2))).bind fun l2=>
  ((recf l2).bind fun r4=>
  ((idx l_0 (IntKind.i64.wrap (Int.tdiv (l_0.length:Int) 2))).bind fun x6=>
  ((slc l_0 (IntKind.i64.wrap ((IntKind.i64.wrap (Int.tdiv (l_0.length:Int) 2))+1)) (l_0.length:Int)).bind fun l8=>
  ((recf l8).bind fun r10=>
  ((eW r4 x6 r10).bind fun r12=>
  some r12)))))))
def yH:Nat→(List bS)→Option (aB)
 |0=>fun _=>none
 |n+1=>tK (yH n)
def aF8(l_0:List bS):Option (aB):=yH aW l_0
theorem aZ3: ∀(nn:Nat) {l_0:List bS} {r:aB} (hm:yH nn l_0=some r),bY prog 155 [.sl (l_0.flatMap aAj) l_0.length false] (aB.av r):=by
 intro nn
 induction nn with
 |zero=>
  intro l_0 r hm;replace hm:none=some r:=hm;cases hm
 |succ nn ih=>
  intro l_0 r hm;replace hm:tK (yH nn) l_0=some r:=hm;refine bY.of_body func155 rfl ?_;simp only [ntmps155,List.length_cons,List.length_nil,Nat.reduceAdd,Nat.reduceSub,iO];unfold tK at hm;refine sN 64 (pA ?_);refine fs (AWp.seq' (sN 128 ?_))
  iterate 3 refine pA ?_
  refine fs (AWp.condM hm Z1 (fun _ hm=>?_) (fun _ hm=>?_))
  · refine sN 192 (pA ?_);refine fs (AWp.ret (jF ?_));cases hm;exact aNn (.inr rfl) Tryz.results155 (td Z1 (aB.data _))
  ·
   refine AWp.skip (bQ (sN 192 ?_))
   iterate 4 refine pu rfl Zj ?_
   refine fs (sd mix (by kernel_rfl) (N':=256) rfl ?_)
   iterate 2 refine pA ?_
   obtain ⟨l2,h1,hm⟩:=bnd hm;refine pu rfl (bDj iM underlying267 bHs Z1 rfl aS2 (aCm Z1 (bHp h1).2) h1) ?_;obtain ⟨r4,h3,hm⟩:=bnd hm;refine aR.callQ (r:=aB.av r4) Zd Z1 bO6 (fun H=>(.cons (tdf Z1 (iM.sl _ _ _)) .nil)) (ih h3) ?_
   iterate 2 refine pA ?_
   obtain ⟨x6,h5,hm⟩:=bnd hm;refine pu rfl (aGv iM Zd underlying267 bHs Z1 rfl Z1 h5) ?_
   iterate 4 refine pA ?_
   obtain ⟨l8,h7,hm⟩:=bnd hm;refine pu rfl (bDj iM underlying267 bHs Z1 rfl (aCm Z1 (bHp h7).1) (aWr _) h7) ?_;obtain ⟨r10,h9,hm⟩:=bnd hm;refine aR.callQ (r:=aB.av r10) Zd Z1 bO6 (fun H=>(.cons (tdf Z1 (iM.sl _ _ _)) .nil)) (ih h9) ?_;obtain ⟨r12,h11,hm⟩:=bnd hm;refine aR.callQ (r:=aB.av r12) Zd Z1 bWa (fun H=>(cD (aB.data _) (cD (.agg _ (iM.dat _)) (cD (aB.data _) .nil)))) (aFv h11) ?_;refine pA ?_;refine fs (AWp.ret ?_);cases hm;exact aNn (.inr rfl) Tryz.results155 (td Z1 (aB.data _))
theorem bCf{l_0:List bS}{r:aB}(hm:aF8 l_0=some r):bY prog 155 [.sl (l_0.flatMap aAj) l_0.length false] (aB.av r):=aZ3 aW hm
def rW(a_0:aB)(b_1:aB):Option (aB):=
 ((qJ b_1 0).bind fun ⟨r2,r3⟩=>
 (bif (!r3) then
  some a_0
 else
  ((tM b_1 1).bind fun ⟨r5,r6⟩=>
  ((rI a_0 r2 r6).bind fun r8=>
  some r8))))
theorem aFu{a_0:aB}{b_1:aB}{r:aB}(hm:rW a_0 b_1=some r):bY prog 154 [aB.av a_0,aB.av b_1] (aB.av r):=by
 refine bd 26 func154 ?_;refine W ?_;obtain ⟨⟨r2,r3⟩,h1,hm⟩:=bnd hm;refine cq (aF7 h1) ?_;refine W ?_;refine cm hm (fun hm=>?_) fun hm=>?_
 · exact E
 refine W ?_;obtain ⟨⟨r5,r6⟩,h4,hm⟩:=bnd hm;refine cq (aE5 h4) ?_;obtain ⟨r8,h7,hm⟩:=bnd hm;refine W ?_;refine cq (aCf h7) ?_;exact E
instance:Ct prog 154 (K2 prog aB.av aB.av aB.av 154 rW):=⟨fun hm=>aFu hm⟩
abbrev aH8(kC:Int)(n_2:Int)(t6:cG)(aSv:aB)(aJn:aB):Option (cG):=
 ((aF8 [(bS.mk kC n_2)]).bind fun r7=>
 ((rW r7 aJn).bind fun r9=>
 ((rW aSv r9).bind fun r11=>
 some (cG.mk r11))))
def aG7(d_0:cG)(kC:Int)(n_2:Int):Option (cG):=
 ((aAk d_0 kC).bind fun r2=>
 ((tM d_0.s r2).bind fun ⟨r4,r5⟩=>
 ((qJ r5 0).bind fun ⟨r13,r14⟩=>
 (bif (r14&&(r13.Key==kC)) then
  ((tM r5 1).bind fun ⟨r16,r17⟩=>
  aH8 kC n_2 (cG.mk aB.nil) r4 r17)
 else
  aH8 kC n_2 (cG.mk aB.nil) r4 r5))))
theorem bIt{d_0:cG}{kC:Int}{n_2:Int}{r:cG}(hm:aG7 d_0 kC n_2=some r):bY prog 118 [.agg [aB.av d_0.s],vu kC,vi n_2] (.agg [aB.av r.s]):=by
 refine bd 47 func118 ?_;obtain ⟨r2,h1,hm⟩:=bnd hm;refine W ?_;refine cq (aSh h1) ?_;obtain ⟨⟨r4,r5⟩,h3,hm⟩:=bnd hm;refine cq (aE5 h3) ?_;refine V ?_;refine AWp.seqJ (fun s=> ∃kC n_2 t6 aSv aJn,s=⟨47,(aF (aF (aF (aF (aF fa 1 (vu kC)) 2 (vi n_2)) 6 (.adr 1 0)) 7 (aB.av aSv)) 8 (aB.av aJn)),⟨(upd aY 1 (.cells 1 [aB.av t6.s] 0)),64⟩⟩∧aH8 kC n_2 t6 aSv aJn=some r) ?_ ?_
 ·
  refine W ?_;obtain ⟨⟨r13,r14⟩,h12,hm⟩:=bnd hm;refine cq (aF7 h12) ?_;refine W ?_;refine cm hm (fun hm=>?_) fun hm=>?_
  · refine W ?_;obtain ⟨⟨r16,r17⟩,h15,hm⟩:=bnd hm;refine cq (aE5 h15) ?_;refine W ?_;exact Lr (fun j=>bif j==1 then 1 else 0)
  refine W ?_;exact Lr (fun j=>bif j==1 then 1 else 0)
 rintro s ⟨kC,n_2,t6,aSv,aJn,rfl,hm⟩;refine W ?_;refine bU (.agg [vu kC,vi n_2]) ?_;refine aL iM [(bS.mk kC n_2)] ?_;obtain ⟨r7,h6,hm⟩:=bnd hm;refine aR.callL1 (r:=aB.av r7) (id:=68) Zd Z1 bO6 Z3 (.cons (tdl iM Z1 Z3 (by simp) Z6) .nil) (bCf h6) ?_;obtain ⟨r9,h8,hm⟩:=bnd hm;refine W ?_;refine cq (aFu h8) ?_;obtain ⟨r11,h10,hm⟩:=bnd hm;refine cq (aFu h10) ?_;refine pu rfl (by simp only [go_sem,Nat.reduceBEq];exact bN7 (aB.cells _)) ?_;exact E
instance:Ct prog 118 (K3 prog xK vu vi xK 118 aG7):=⟨fun hm=>bIt hm⟩
abbrev aG1(rec1:cG→cG→List aI→Int→Int→Option (cG×Bool))(t2:cG)(rC:cG)(t14:List aI)(t15:Int)(t16:Int):Option (cG×Bool):=
 rec1 t2 rC t14 t15 (IntKind.i64.wrap (t16+1))
def aG0(rec1:cG→cG→List aI→Int→Int→Option (cG×Bool))(t2:cG)(rC:cG)(t14:List aI)(t15:Int)(t16:Int):Option (cG×Bool):=
 (bif (decide (t16<t15)) then
  ((idx t14 t16).bind fun x4=>
  (bif (!x4.Used) then
   (bif (x4.Key !=0) then
    some ((cG.mk aB.nil),false)
   else
    aG1 rec1 t2 rC t14 t15 t16)
  else
   ((xP rC x4.Key).bind fun ⟨r6,r7⟩=>
   (bif r7 then
    some ((cG.mk aB.nil),false)
   else
    ((aG7 rC x4.Key t16).bind fun r9=>
    aG1 rec1 t2 r9 t14 t15 t16)))))
 else
  some (rC,true))
def wJ:Nat→cG→cG→List aI→Int→Int→Option (cG×Bool)
 |0=>fun _ _ _ _ _=>none
 |n+1=>aG0 (wJ n)
def oE(l_0:List aI):Option (cG×Bool):=
 ((rD (l_0.length:Int)).bind fun r2=>
 (bif (!r2) then
  some ((cG.mk aB.nil),false)
 else
  wJ aW (cG.mk aB.nil) (cG.mk aB.nil) l_0 (l_0.length:Int) 0))
theorem aId:K1 prog (vl aX) (t2 xK vb) 78 oE:=by
 intro l_0 r hm
 let I1:=((fun m s=> ∃t2 rC t14 t15 t16,s=⟨44,(aF (aF (aF (aF (aF fa 2 (.adr 1 0)) 4 (.adr 2 0)) 14 (vl aX t14)) 15 (vi t15)) 16 (vi t16)),⟨(upd (upd aY 1 (.cells 1 [aB.av t2.s] 0)) 2 (.cells 1 [aB.av rC.s] 0)),64⟩⟩∧wJ m t2 rC t14 t15 t16=some r):Nat→St→Prop)
 exact be 44 func78 (h:=G)
instance:Ct prog 78 (K1 prog (vl aX) (t2 xK vb) 78 oE):=⟨aId⟩
def aA9(l_0:List aI):Option (Bool):=
 ((oE l_0).bind fun ⟨r2,r3⟩=>
 some r3)
theorem aZg:K1 prog (vl aX) vb 77 aA9:=fun hm=>be 11 func77 (h:=G)
instance:Ct prog 77 (K1 prog (vl aX) vb 77 aA9):=⟨aZg⟩
def aI6(rec1:aD→List aE→Int→Int→Option (Bool))(s_1:aD)(t27:List aE)(t28:Int)(t29:Int):Option (Bool):=
 (bif (decide (t29<t28)) then
  ((idx t27 t29).bind fun x6=>
  ((idx s_1.Slots x6.U).bind fun x8=>
  ((eG ((!x8.Used)==false) (aI.mk false 0) (idx s_1.Slots x6.V)).bind fun x10=>
  (bif ((!x8.Used)||(!x10.Used)) then
   some false
  else
   rec1 s_1 t27 t28 (IntKind.i64.wrap (t29+1))))))
 else
  some true)
def aA7:Nat→aD→List aE→Int→Int→Option (Bool)
 |0=>fun _ _ _ _=>none
 |n+1=>aI6 (aA7 n)
def mP(s_0:aD):Option (Bool):=
 ((gY s_0.Graph).bind fun r2=>
 ((eG ((!r2)==false) false (aA9 s_0.Slots)).bind fun r4=>
 (bif (((!r2)||(!r4))||((s_0.Slots.length:Int) !=s_0.Graph.Config.N)) then
  some false
 else
  aA7 aW s_0 s_0.Graph.Edges (s_0.Graph.Edges.length:Int) 0)))
theorem aQs:K1 prog dF vb 36 mP:=by
 intro s_0 r hm
 let I1:=((fun m s=> ∃s_1 t27 t28 t29,s=⟨52,(aF (aF (aF (aF fa 1 (.adr 1 0)) 27 (vl aV t27)) 28 (vi t28)) 29 (vi t29)),⟨(upd aY 1 (.cells 1 [vi s_1.Graph.Config.N,vi s_1.Graph.Config.L,vi s_1.Graph.Config.R,vl cL s_1.Graph.Hashes,vl aV s_1.Graph.Edges,vl aX s_1.Slots] 0)),64⟩⟩∧aA7 m s_1 t27 t28 t29=some r):Nat→St→Prop)
 exact be 52 func36 (h:=G)
instance:Ct prog 36 (K1 prog dF vb 36 mP):=⟨aQs⟩
def tY(l_0:List aI)(kC:Int):Option (Int×Bool):=
 ((oE l_0).bind fun ⟨r2,r3⟩=>
 (bif (!r3) then
  some (0,false)
 else
  ((xP r2 kC).bind fun ⟨r5,r6⟩=>
  some (r5,r6))))
theorem bD1:K2 prog (vl aX) vu (t2 vi vb) 37 tY:=fun hm=>be 20 func37 (h:=G)
instance:Ct prog 37 (K2 prog (vl aX) vu (t2 vi vb) 37 tY):=⟨bD1⟩
def qN(bAj:Int):Option (Bool):=
 some (((decide (2≤bAj))&&(decide (bAj≤11)))&&(bAj !=10))
theorem aXr:K1 prog vi vb 38 qN:=fun hm=>be 13 func38 (h:=G)
instance:Ct prog 38 (K1 prog vi vb 38 qN):=⟨aXr⟩
def qO(bAj:Int):Option (Bool):=
 some ((((bAj==3)||(bAj==4))||(bAj==5))||(bAj==8))
theorem aXs:K1 prog vi vb 39 qO:=fun hm=>be 17 func39 (h:=G)
instance:Ct prog 39 (K1 prog vi vb 39 qO):=⟨aXs⟩
def xU(s_0:aD)(v_1:Int):Option ((List Int)):=
 ((aFd s_0.Graph.Config.N s_0.Graph.Edges v_1).bind fun r2=>
 some r2)
theorem bAw:K2 prog dF vi (vl (ci .i64)) 83 xU:=fun hm=>be 14 func83 (h:=G)
instance:Ct prog 83 (K2 prog dF vi (vl (ci .i64)) 83 xU):=⟨bAw⟩
def rP(s_0:aD)(v_1:Int):Option (Int):=
 ((xU s_0 v_1).bind fun r2=>
 some (r2.length:Int))
theorem aUn:K2 prog dF vi vi 81 rP:=fun hm=>be 9 func81 (h:=G)
instance:Ct prog 81 (K2 prog dF vi vi 81 rP):=⟨aUn⟩
def oW(x_0:Int):Option (Bool):=
 some (x_0 !=x_0)
theorem aOm:K1 prog vu vb 162 oW:=fun hm=>be 6 func162 (h:=G)
instance:Ct prog 162 (K1 prog vu vb 162 oW):=⟨aOm⟩
def dI(x_0:Int)(y_1:Int):Option (Bool):=
 ((oW x_0).bind fun r2=>
 ((eG (r2==true) false (oW y_1)).bind fun r4=>
 some ((r2&&(!r4))||(decide (x_0<y_1)))))
theorem aC7:K2 prog vu vu vb 199 dI:=fun hm=>be 17 func199 (h:=G)
instance:Ct prog 199 (K2 prog vu vu vb 199 dI):=⟨aC7⟩
def jO(rec1:List Int→Int→Int→Int→Option (List Int))(rec2:List Int→Int→Int→Int→Int→Option (List Int))(aC:List Int)(a_1:Int)(b_2:Int)(i_6:Int)(j_7:Int):Option (List Int):=
 ((eG ((decide (a_1<j_7))==true) 0 (idx aC j_7)).bind fun x2=>
 ((eG ((decide (a_1<j_7))==true) 0 (idx aC (IntKind.i64.wrap (j_7-1)))).bind fun x4=>
 ((eG ((decide (a_1<j_7))==true) false (dI x2 x4)).bind fun r6=>
 (bif ((decide (a_1<j_7))&&r6) then
  ((idx aC (IntKind.i64.wrap (j_7-1))).bind fun x8=>
  ((idx aC j_7).bind fun x10=>
  ((idx aC j_7).bind fun x12=>
  ((stt aC j_7 x8).bind fun l14=>
  ((idx l14 (IntKind.i64.wrap (j_7-1))).bind fun x16=>
  ((stt l14 (IntKind.i64.wrap (j_7-1)) x10).bind fun l18=>
  rec2 l18 a_1 b_2 i_6 (IntKind.i64.wrap (j_7-1))))))))
 else
  rec1 aC a_1 b_2 (IntKind.i64.wrap (i_6+1))))))
def eZ(rec1:List Int→Int→Int→Int→Option (List Int)):Nat→List Int→Int→Int→Int→Int→Option (List Int)
 |0=>fun _ _ _ _ _=>none
 |n+1=>jO rec1 (eZ rec1 n)
def jN(rec1:List Int→Int→Int→Int→Option (List Int))(aC:List Int)(a_1:Int)(b_2:Int)(i_6:Int):Option (List Int):=
 (bif (decide (i_6<b_2)) then
  eZ rec1 aW aC a_1 b_2 i_6 i_6
 else
  some aC)
def dZ:Nat→List Int→Int→Int→Int→Option (List Int)
 |0=>fun _ _ _ _=>none
 |n+1=>jN (dZ n)
def fG(aC:List Int)(a_1:Int)(b_2:Int):Option (List Int):=
 dZ aW aC a_1 b_2 (IntKind.i64.wrap (a_1+1))
instance:FB prog 193:=⟨by kernel_rfl⟩
theorem nB: ∀ {aC:List Int} {a_1:Int} {b_2:Int},KM prog 193 [.v (.int .i64 a_1),vi b_2] aC (fG aC a_1 b_2) (fun r=>r) (fun r=> .tup []):=by
 intro aC a_1 b_2 r hm H i0 he;refine bM 49 func193 he fun h0=>?_
 let I1:=((fun m s=> ∃aC a_1 b_2 i_6,jM 49 (aF (aF (aF (aF fa 0 (.own i0 0 aC.length)) 1 (vi a_1)) 2 (vi b_2)) 6 (vi i_6)) h0 i0 aC (dZ m aC a_1 b_2 i_6) r s):Nat→St→Prop)
 let I2:=fun (n1:Nat)=>((fun m s=> ∃aC a_1 b_2 i_6 j_7,jM 49 (aF (aF (aF (aF (aF fa 0 (.own i0 0 aC.length)) 1 (vi a_1)) 2 (vi b_2)) 6 (vi i_6)) 7 (vi j_7)) h0 i0 aC (eZ (dZ n1) m aC a_1 b_2 i_6 j_7) r s):Nat→St→Prop)
 exact GM
instance:Ct prog 193 (∀ {aC:List Int} {a_1:Int} {b_2:Int},KM prog 193 [.v (.int .i64 a_1),vi b_2] aC (fG aC a_1 b_2) (fun r=>r) (fun r=> .tup [])):=⟨nB⟩
abbrev jB(rec1:List Int→Int→Int→Int→Option (List Int))(aC:List Int)(aFm:Int)(jK:Int)(qX:Int)(aMz:Int):Option (List Int):=
 ((idx aC (IntKind.i64.wrap (jK+qX))).bind fun x2=>
 ((idx aC (IntKind.i64.wrap (jK+aMz))).bind fun x4=>
 ((dI x2 x4).bind fun r6=>
 (bif (!r6) then
  some aC
 else
  ((idx aC (IntKind.i64.wrap (jK+aMz))).bind fun x8=>
  ((idx aC (IntKind.i64.wrap (jK+qX))).bind fun x10=>
  ((idx aC (IntKind.i64.wrap (jK+qX))).bind fun x12=>
  ((stt aC (IntKind.i64.wrap (jK+qX)) x8).bind fun l14=>
  ((idx l14 (IntKind.i64.wrap (jK+aMz))).bind fun x16=>
  ((stt l14 (IntKind.i64.wrap (jK+aMz)) x10).bind fun l18=>
  rec1 l18 aFm jK aMz))))))))))
def lI(rec1:List Int→Int→Int→Int→Option (List Int))(aC:List Int)(aFm:Int)(jK:Int)(qX:Int):Option (List Int):=
 (bif (decide (aFm≤(IntKind.i64.wrap ((IntKind.i64.wrap (2*qX))+1)))) then
  some aC
 else
  ((eG ((decide ((IntKind.i64.wrap ((IntKind.i64.wrap ((IntKind.i64.wrap (2*qX))+1))+1))<aFm))==true) 0 (idx aC (IntKind.i64.wrap (jK+(IntKind.i64.wrap ((IntKind.i64.wrap (2*qX))+1)))))).bind fun x20=>
  ((eG ((decide ((IntKind.i64.wrap ((IntKind.i64.wrap ((IntKind.i64.wrap (2*qX))+1))+1))<aFm))==true) 0 (idx aC (IntKind.i64.wrap ((IntKind.i64.wrap (jK+(IntKind.i64.wrap ((IntKind.i64.wrap (2*qX))+1))))+1)))).bind fun x22=>
  ((eG ((decide ((IntKind.i64.wrap ((IntKind.i64.wrap ((IntKind.i64.wrap (2*qX))+1))+1))<aFm))==true) false (dI x20 x22)).bind fun r24=>
  (bif ((decide ((IntKind.i64.wrap ((IntKind.i64.wrap ((IntKind.i64.wrap (2*qX))+1))+1))<aFm))&&r24) then
   jB rec1 aC aFm jK qX (IntKind.i64.wrap ((IntKind.i64.wrap ((IntKind.i64.wrap (2*qX))+1))+1))
  else
   jB rec1 aC aFm jK qX (IntKind.i64.wrap ((IntKind.i64.wrap (2*qX))+1)))))))
def fD:Nat→List Int→Int→Int→Int→Option (List Int)
 |0=>fun _ _ _ _=>none
 |n+1=>lI (fD n)
def fO(aC:List Int)(uK:Int)(aFm:Int)(jK:Int):Option (List Int):=
 fD aW aC aFm jK uK
instance:FB prog 238:=⟨by kernel_rfl⟩
theorem aBz: ∀ {aC:List Int} {uK:Int} {aFm:Int} {jK:Int},KM prog 238 [.v (.int .i64 uK),vi aFm,vi jK] aC (fO aC uK aFm jK) (fun r=>r) (fun r=> .tup []):=by
 intro aC uK aFm jK r hm H i0 he;refine bM 76 func238 he fun h0=>?_
 let I1:=((fun m s=> ∃aC aFm jK qX,jM 76 (aF (aF (aF (aF fa 0 (.own i0 0 aC.length)) 2 (vi aFm)) 3 (vi jK)) 8 (vi qX)) h0 i0 aC (fD m aC aFm jK qX) r s):Nat→St→Prop)
 exact GM
instance:Ct prog 238 (∀ {aC:List Int} {uK:Int} {aFm:Int} {jK:Int},KM prog 238 [.v (.int .i64 uK),vi aFm,vi jK] aC (fO aC uK aFm jK) (fun r=>r) (fun r=> .tup [])):=⟨aBz⟩
def lH(rec2:List Int→Int→Int→Int→Option (List Int))(aC:List Int)(nF:Int)(aSz:Int)(iJ:Int):Option (List Int):=
 (bif (decide (0≤iJ)) then
  ((idx aC (IntKind.i64.wrap (nF+iJ))).bind fun x4=>
  ((idx aC nF).bind fun x6=>
  ((idx aC nF).bind fun x8=>
  ((stt aC nF x4).bind fun l10=>
  ((idx l10 (IntKind.i64.wrap (nF+iJ))).bind fun x12=>
  ((stt l10 (IntKind.i64.wrap (nF+iJ)) x6).bind fun l14=>
  ((aAb (fun x=>x.length) l14.length (fO l14 aSz iJ nF)).bind fun l16=>
  rec2 l16 nF aSz (IntKind.i64.wrap (iJ-1)))))))))
 else
  some aC)
def gQ:Nat→List Int→Int→Int→Int→Option (List Int)
 |0=>fun _ _ _ _=>none
 |n+1=>lH (gQ n)
def lG(rec1:List Int→Int→Int→Int→Int→Option (List Int))(aC:List Int)(nF:Int)(aSz:Int)(bLk:Int)(i_9:Int):Option (List Int):=
 (bif (decide (0≤i_9)) then
  ((aAb (fun x=>x.length) aC.length (fO aC i_9 bLk nF)).bind fun l2=>
  rec1 l2 nF aSz bLk (IntKind.i64.wrap (i_9-1)))
 else
  gQ aW aC nF aSz (IntKind.i64.wrap (bLk-1)))
def gP:Nat→List Int→Int→Int→Int→Int→Option (List Int)
 |0=>fun _ _ _ _ _=>none
 |n+1=>lG (gP n)
def iB(aC:List Int)(a_1:Int)(b_2:Int):Option (List Int):=
 gP aW aC a_1 0 (IntKind.i64.wrap (b_2-a_1)) (IntKind.i64.wrap (Int.tdiv (IntKind.i64.wrap ((IntKind.i64.wrap (b_2-a_1))-1)) 2))
instance:FB prog 194:=⟨by kernel_rfl⟩
theorem qK: ∀ {aC:List Int} {a_1:Int} {b_2:Int},KM prog 194 [.v (.int .i64 a_1),vi b_2] aC (iB aC a_1 b_2) (fun r=>r) (fun r=> .tup []):=by
 intro aC a_1 b_2 r hm H i0 he;refine bM 56 func194 he fun h0=>?_
 let I1:=((fun m s=> ∃aC nF aSz bLk i_9,jM 56 (aF (aF (aF (aF (aF fa 0 (.own i0 0 aC.length)) 6 (vi nF)) 7 (vi aSz)) 8 (vi bLk)) 9 (vi i_9)) h0 i0 aC (gP m aC nF aSz bLk i_9) r s):Nat→St→Prop)
 let I2:=((fun m s=> ∃aC nF aSz iJ,jM 56 (aF (aF (aF (aF fa 0 (.own i0 0 aC.length)) 6 (vi nF)) 7 (vi aSz)) 10 (vi iJ)) h0 i0 aC (gQ m aC nF aSz iJ) r s):Nat→St→Prop)
 exact GM
instance:Ct prog 194 (∀ {aC:List Int} {a_1:Int} {b_2:Int},KM prog 194 [.v (.int .i64 a_1),vi b_2] aC (iB aC a_1 b_2) (fun r=>r) (fun r=> .tup [])):=⟨qK⟩
def kM(bPi:Int):Option (Int):=
 ((xL (IntKind.u64.wrap bPi)).bind fun r2=>
 ((chk (decide (0≤r2))).bind fun _=>
 some (shl .u64 1 r2)))
theorem aA6:K1 prog vi vu 239 kM:=fun hm=>be 7 func239 (h:=G)
instance:Ct prog 239 (K1 prog vi vu 239 kM):=⟨aA6⟩
def aB1(r_0:Int):Option (Int×Int):=
 some ((aAi .u64 (aAi .u64 (aAi .u64 r_0 (shl .u64 r_0 13)) (shr .u64 (aAi .u64 r_0 (shl .u64 r_0 13)) 7)) (shl .u64 (aAi .u64 (aAi .u64 r_0 (shl .u64 r_0 13)) (shr .u64 (aAi .u64 r_0 (shl .u64 r_0 13)) 7)) 17)),(aAi .u64 (aAi .u64 (aAi .u64 r_0 (shl .u64 r_0 13)) (shr .u64 (aAi .u64 r_0 (shl .u64 r_0 13)) 7)) (shl .u64 (aAi .u64 (aAi .u64 r_0 (shl .u64 r_0 13)) (shr .u64 (aAi .u64 r_0 (shl .u64 r_0 13)) 7)) 17)))
theorem aPh{r_0:Int}{r:Int×Int}(hm:aB1 r_0=some r){H:aG}{i0:Nat}(he:H.ent i0= .cells 1 [.v (.int .u64 r_0)] 0):eQ prog 240 [.adr i0 0] H (.v (.int .u64 r.1)) (H.put i0 (.cells 1 [.v (.int .u64 r.2)] 0)):=by
 refine eQ.of_bodyM func240 rfl he ?_;generalize H.ent=h0;simp only [ntmps240,List.length_cons,List.length_nil,Nat.reduceAdd,Nat.reduceSub];unfold aB1 at hm;refine sN 64 (pA ?_);refine fs (sd mix (by kernel_rfl) (N':=128) rfl ?_)
 iterate 2 refine pA ?_
 refine pu rfl (hZ Z1 Za Z2) ?_
 iterate 2 refine pA ?_
 refine pu rfl (hZ Z1 Za Z2) ?_
 iterate 3 refine pu rfl Zj ?_
 refine aR.heap0 (id:=73) rfl (oF (ys:=[.v (.int .u64 (aAi .u64 r_0 (shl .u64 r_0 13)))]) bCk Z1 Z1 Za rfl (lB rfl) Z9 rfl) ?_;refine fs (sd mix (by kernel_rfl) (N':=192) rfl ?_)
 iterate 2 refine pA ?_
 refine pu rfl (hZ Z1 Za Z2) ?_
 iterate 2 refine pA ?_
 refine pu rfl (hZ Z1 Za Z2) ?_
 iterate 3 refine pu rfl Zj ?_
 refine aR.heap0 (id:=137) rfl (oF (ys:=[.v (.int .u64 (aAi .u64 (aAi .u64 r_0 (shl .u64 r_0 13)) (shr .u64 (aAi .u64 r_0 (shl .u64 r_0 13)) 7)))]) bCk Z1 Z1 Za rfl (lB rfl) Z9 rfl) ?_;refine fs (sd mix (by kernel_rfl) (N':=256) rfl ?_)
 iterate 2 refine pA ?_
 refine pu rfl (hZ Z1 Za Z2) ?_
 iterate 2 refine pA ?_
 refine pu rfl (hZ Z1 Za Z2) ?_
 iterate 3 refine pu rfl Zj ?_
 refine aR.heap0 (id:=201) rfl (oF (ys:=[.v (.int .u64 (aAi .u64 (aAi .u64 (aAi .u64 r_0 (shl .u64 r_0 13)) (shr .u64 (aAi .u64 r_0 (shl .u64 r_0 13)) 7)) (shl .u64 (aAi .u64 (aAi .u64 r_0 (shl .u64 r_0 13)) (shr .u64 (aAi .u64 r_0 (shl .u64 r_0 13)) 7)) 17)))]) bCk Z1 Z1 Za rfl (lB rfl) Z9 rfl) ?_;refine fs (sN 320 ?_)
 iterate 2 refine pA ?_
 refine pu rfl (hZ Z1 Za Z2) ?_;refine pA ?_;refine fs (AWp.ret ?_);cases hm;exact bCa (.inr rfl) Tryz.results240 Z1 Zc
abbrev gZ(rec1:List Int→Int→Int→Int→Int→Int→Option (List Int))(aC:List Int)(a_1:Int)(gO:Int)(jY:Int)(eP:Int)(oY:Int):Option (List Int):=
 rec1 aC a_1 gO jY eP (IntKind.i64.wrap (oY+1))
abbrev dX(rec1:List Int→Int→Int→Int→Int→Int→Option (List Int))(aC:List Int)(a_1:Int)(gO:Int)(jY:Int)(eP:Int)(oY:Int)(aDv:Int):Option (List Int):=
 ((idx aC (IntKind.i64.wrap (a_1+aDv))).bind fun x7=>
 ((idx aC oY).bind fun x9=>
 ((idx aC oY).bind fun x11=>
 ((stt aC oY x7).bind fun l13=>
 ((idx l13 (IntKind.i64.wrap (a_1+aDv))).bind fun x15=>
 ((stt l13 (IntKind.i64.wrap (a_1+aDv)) x9).bind fun l17=>
 gZ rec1 l17 a_1 gO jY eP oY))))))
def eX(rec1:List Int→Int→Int→Int→Int→Int→Option (List Int))(aC:List Int)(a_1:Int)(gO:Int)(jY:Int)(eP:Int)(oY:Int):Option (List Int):=
 (bif (decide (oY≤(IntKind.i64.wrap ((IntKind.i64.wrap (a_1+(IntKind.i64.wrap ((IntKind.i64.wrap (Int.tdiv gO 4))*2))))+1)))) then
  ((aB1 jY).bind fun ⟨r5,x4⟩=>
  (bif (decide (gO≤(IntKind.i64.wrap (yQ .u64 r5 (IntKind.u64.wrap (eP-1)))))) then
   dX rec1 aC a_1 gO x4 eP oY (IntKind.i64.wrap ((IntKind.i64.wrap (yQ .u64 r5 (IntKind.u64.wrap (eP-1))))-gO))
  else
   dX rec1 aC a_1 gO x4 eP oY (IntKind.i64.wrap (yQ .u64 r5 (IntKind.u64.wrap (eP-1))))))
 else
  some aC)
def bX:Nat→List Int→Int→Int→Int→Int→Int→Option (List Int)
 |0=>fun _ _ _ _ _ _=>none
 |n+1=>eX (bX n)
def fF(aC:List Int)(a_1:Int)(b_2:Int):Option (List Int):=
 (bif (decide (8≤(IntKind.i64.wrap (b_2-a_1)))) then
  ((kM (IntKind.i64.wrap (b_2-a_1))).bind fun r2=>
  bX aW aC a_1 (IntKind.i64.wrap (b_2-a_1)) (IntKind.u64.wrap (IntKind.i64.wrap (b_2-a_1))) r2 (IntKind.i64.wrap ((IntKind.i64.wrap (a_1+(IntKind.i64.wrap ((IntKind.i64.wrap (Int.tdiv (IntKind.i64.wrap (b_2-a_1)) 4))*2))))-1)))
 else
  some aC)
theorem xH{aC:List Int}{a_1:Int}{b_2:Int}{r:List Int}(hm:fF aC a_1 b_2=some r){H:aG}{i0:Nat}(he:H.ent i0= .cells 1 (aC.flatMap (ci .u64)) 0)(hk: ∀id,3000000≤id→H.ent id= .fresh)(hD: ∀id,aFg (H.ent id))(hi:i0<3000000):eQ prog 195 [.own i0 0 aC.length,.v (.int .i64 a_1),.v (.int .i64 b_2)] H (.tup []) (H.put i0 (.cells 1 (r.flatMap (ci .u64)) 0)):=by
 refine eQ.of_bodyK func195 rfl he hk ?_;clear he;generalize H.ent=h0 at hk hD⊢;have hne1: ∀ {k:Nat},3000000≤k→(k==i0)=false:=fun hh=>by simp;omega
 have hne2: ∀ {k:Nat},3000000≤k→(i0==k)=false:=fun hh=>by simp;omega
 simp only [ntmps195,List.length_cons,List.length_nil,Nat.reduceAdd,Nat.reduceSub];unfold fF at hm;refine AWp.behind ?_;refine sN 3000064 ?_
 iterate 4 refine pA ?_
 refine fs (sN 3000128 ?_)
 iterate 2 refine pA ?_
 refine fs (AWp.condM hm Z1 (fun _ hm=>?_) (fun _ hm=>?_))
 ·
  refine sN 3000192 ?_
  iterate 2 refine pA ?_
  refine hp (id:=3000130) rfl rfl (nS cIx (by simp only [eC,hne1,Nat.reduceLeDiff,Nat.reduceBEq,cond_true,cond_false];exact frK hk Zd)) ?_;refine aR.heap0 (id:=3000131) rfl (oF (ys:=[.v (.int .u64 (IntKind.u64.wrap (IntKind.i64.wrap (b_2-a_1))))]) bCk Z1 Z1 Ze rfl (lB rfl) Z9 rfl) ?_;refine fs (sN 3000256 (pA ?_));obtain ⟨r2,h1,hm⟩:=bnd hm;refine aR.callQ (r:= .v (.int .u64 r2)) Zd Z1 cAj (fun H=>(cV .nil)) (aA6 h1) ?_;refine pA ?_;refine fs (sN 3000320 ?_)
  iterate 7 refine pu rfl Zj ?_
  refine fs (AWp.block (AWp.loopM (fun m s=> ∃(aC:List Int) (a_1:Int) (gO:Int) (jY:Int) (eP:Int) (oY:Int),s=(⟨65,(aF (aF (aF (aF (aF (aF (fun _=>AV.any) 0 (.own i0 0 aC.length)) 1 (.v (.int .i64 a_1))) 6 (.v (.int .i64 gO))) 7 (.adr 3000130 0)) 8 (.v (.int .u64 eP))) 9 (.v (.int .i64 oY))),⟨(upd (upd h0 i0 (.cells 1 (aC.flatMap (ci .u64)) 0)) 3000130 (.cells 1 [.v (.int .u64 jY)] 0)),64⟩⟩:St)∧bX m aC a_1 gO jY eP oY=some r) aW ?_ ?_ ?_))
  · rintro s ⟨_,_,_,_,_,_,_,h⟩;cases h
  · refine ⟨_,?_,aC,a_1,(IntKind.i64.wrap (b_2-a_1)),(IntKind.u64.wrap (IntKind.i64.wrap (b_2-a_1))),r2,(IntKind.i64.wrap ((IntKind.i64.wrap (a_1+(IntKind.i64.wrap ((IntKind.i64.wrap (Int.tdiv (IntKind.i64.wrap (b_2-a_1)) 4))*2))))-1)),rfl,hm⟩;exact sF (aZ 9 _ Z1 (aZ 8 _ Z1 (aZ 7 _ Z1 (aZ 6 _ Z1 (aZ 1 _ Z1 (aZ 0 _ (sG Z1 Z6) nG)))))) Zi
  ·
   rintro n1 s ⟨aC,a_1,gO,jY,eP,oY,rfl,hm⟩;replace hm:eX (bX n1) aC a_1 gO jY eP oY=some r:=hm;unfold eX at hm;refine AWp.seq' (sN 128 ?_)
   iterate 8 refine pu rfl Zj ?_
   refine fs (AWp.condM hm Z1 (fun _ hm=>?_) (fun _ hm=>?_))
   ·
    refine AWp.skip (bQ (AWp.seqJ (fun s=> ∃(aC:List Int) (a_1:Int) (gO:Int) (jY:Int) (eP:Int) (oY:Int),s=(⟨65,(aF (aF (aF (aF (aF (aF (fun _=>AV.any) 0 (.own i0 0 aC.length)) 1 (.v (.int .i64 a_1))) 6 (.v (.int .i64 gO))) 7 (.adr 3000130 0)) 8 (.v (.int .u64 eP))) 9 (.v (.int .i64 oY))),⟨(upd (upd h0 i0 (.cells 1 (aC.flatMap (ci .u64)) 0)) 3000130 (.cells 1 [.v (.int .u64 jY)] 0)),64⟩⟩:St)∧gZ (bX n1) aC a_1 gO jY eP oY=some r) ?_ ?_))
    ·
     refine AWp.block (sN 192 ?_);obtain ⟨⟨r5,x4⟩,h3,hm⟩:=bnd hm;refine aR.callM Zd Z1 cAk Z1 (aPh h3 Ze) ?_
     iterate 5 refine pA ?_
     refine fs (AWp.seqJ (fun s=> ∃(aC:List Int) (a_1:Int) (gO:Int) (jY:Int) (eP:Int) (oY:Int) (aDv:Int),s=(⟨65,(aF (aF (aF (aF (aF (aF (aF (fun _=>AV.any) 0 (.own i0 0 aC.length)) 1 (.v (.int .i64 a_1))) 6 (.v (.int .i64 gO))) 7 (.adr 3000130 0)) 8 (.v (.int .u64 eP))) 9 (.v (.int .i64 oY))) 10 (.v (.int .i64 aDv))),⟨(upd (upd h0 i0 (.cells 1 (aC.flatMap (ci .u64)) 0)) 3000130 (.cells 1 [.v (.int .u64 jY)] 0)),64⟩⟩:St)∧dX (bX n1) aC a_1 gO jY eP oY aDv=some r) ?_ ?_)
     ·
      refine sN 256 ?_
      iterate 3 refine pA ?_
      refine fs (AWp.condM hm Z1 (fun _ hm=>?_) (fun _ hm=>?_))
      ·
       refine AWp.reg 64 (N':=320) rfl ?_
       iterate 4 refine pA ?_
       refine aR.fin (pH ?_);refine ⟨_,?_,aC,a_1,gO,x4,eP,oY,(IntKind.i64.wrap ((IntKind.i64.wrap (yQ .u64 r5 (IntKind.u64.wrap (eP-1))))-gO)),rfl,hm⟩;exact sF (aZ 10 _ Z1 (aZ 9 _ Z1 (aZ 8 _ Z1 (aZ 7 _ Z1 (aZ 6 _ Z1 (aZ 1 _ Z1 (aZ 0 _ (sG Z1 Z6) nG))))))) Zi
      · refine AWp.skip (pH ?_);refine ⟨_,?_,aC,a_1,gO,x4,eP,oY,(IntKind.i64.wrap (yQ .u64 r5 (IntKind.u64.wrap (eP-1)))),rfl,hm⟩;exact sF (aZ 10 _ Z1 (aZ 9 _ Z1 (aZ 8 _ Z1 (aZ 7 _ Z1 (aZ 6 _ Z1 (aZ 1 _ Z1 (aZ 0 _ (sG Z1 Z6) nG))))))) Zi
     ·
      rintro s ⟨aC,a_1,gO,jY,eP,oY,aDv,rfl,hm⟩;unfold dX at hm;refine AWp.regD 64 mix (by kernel_rfl) (N':=128) rfl ?_
      iterate 10 refine pA ?_
      obtain ⟨x7,h6,hm⟩:=bnd hm;refine pu rfl (iY underlying24 aO1 Z1 Ze Z6 Z1 h6) ?_;refine pu rfl (aAf (CFi .u64) Z1 Ze h6 Zb) ?_
      iterate 2 refine pA ?_
      obtain ⟨x9,h8,hm⟩:=bnd hm;refine pu rfl (iY underlying24 aO1 Z1 Ze Z6 Z1 h8) ?_;refine pu rfl (aAf (CFi .u64) Z1 Ze h8 Zb) ?_;obtain ⟨x11,h10,hm⟩:=bnd hm;refine pu rfl (iY underlying24 aO1 Z1 Ze Z6 Z1 h10) ?_;obtain ⟨l13,h12,hm⟩:=bnd hm;have qh12:=nH h12;refine aR.heap0 (id:=81) rfl (aGt (CFi .u64) aO1 Z1 Z1 Ze rfl h12) ?_;obtain ⟨x15,h14,hm⟩:=bnd hm;refine pu rfl (iY underlying24 aO1 Z1 Ze Z6 Z1 h14) ?_;obtain ⟨l17,h16,hm⟩:=bnd hm;have qh16:=nH h16;refine aR.heap0 (id:=83) rfl (aGt (CFi .u64) aO1 Z1 Z1 Ze rfl h16) ?_;refine aR.fin (jT (pH ?_));refine ⟨_,?_,l17,a_1,gO,jY,eP,oY,rfl,hm⟩;exact sF (aZ 9 _ Z1 (aZ 8 _ Z1 (aZ 7 _ Z1 (aZ 6 _ Z1 (aZ 1 _ Z1 (aZ 0 _ (sG Z1 Z6) nG)))))) Zi
    ·
     rintro s ⟨aC,a_1,gO,jY,eP,oY,rfl,hm⟩;unfold gZ at hm;refine AWp.reg 64 (N':=128) rfl ?_
     iterate 3 refine pA ?_
     refine aR.fin (iA ?_);refine ⟨_,?_,aC,a_1,gO,jY,eP,(IntKind.i64.wrap (oY+1)),rfl,hm⟩;exact sF (aZ 9 _ Z1 (aZ 8 _ Z1 (aZ 7 _ Z1 (aZ 6 _ Z1 (aZ 1 _ Z1 (aZ 0 _ (sG Z1 Z6) nG)))))) Zi
   · refine AWp.exit (kH (jC (iT ?_)));cases hm;exact aWe (.inl rfl) Tryz.results195 (by intro q hq;simp only [upd];all_goals ((repeat' split)<;>first|rfl|omega)) (fun q hq=>by rw [upd_ne _ _ _ _ om];exact hk q hq) (sS (aIf (CFi .u64)) hD)
 · refine AWp.skip ?_;cases hm;exact aWe (.inl rfl) Tryz.results195 (by intro q hq;simp only [upd];all_goals ((repeat' split)<;>first|rfl|omega)) (fun q hq=>by rw [upd_ne _ _ _ _ om];exact hk q hq) (sS (aIf (CFi .u64)) hD)
def eT(aC:List Int)(a_1:Int)(b_2:Int)(aKv:Int):Option (Int×Int×Int):=
 ((idx aC b_2).bind fun x2=>
 ((idx aC a_1).bind fun x4=>
 ((dI x2 x4).bind fun r6=>
 (bif r6 then
  some (b_2,a_1,(IntKind.i64.wrap (aKv+1)))
 else
  some (a_1,b_2,aKv)))))
theorem mF{aC:List Int}{a_1:Int}{b_2:Int}{aKv:Int}{r:Int×Int×Int}(hm:eT aC a_1 b_2 aKv=some r){H:aG}{i0:Nat}(he:H.ent i0= .cells 1 [.v (.int .i64 aKv)] 0):eQ prog 255 [.sl (aC.flatMap (ci .u64)) aC.length false,.v (.int .i64 a_1),.v (.int .i64 b_2),.adr i0 0] H (.tup [.v (.int .i64 r.1),.v (.int .i64 r.2.1)]) (H.put i0 (.cells 1 [.v (.int .i64 r.2.2)] 0)):=by
 refine eQ.of_bodyM func255 rfl he ?_;generalize H.ent=h0;simp only [ntmps255,List.length_cons,List.length_nil,Nat.reduceAdd,Nat.reduceSub];unfold eT at hm;refine sN 64 ?_
 iterate 2 refine pA ?_
 refine fs (AWp.seq' (sd mix (by kernel_rfl) (N':=128) rfl ?_))
 iterate 2 refine pA ?_
 obtain ⟨x2,h1,hm⟩:=bnd hm;refine pu rfl (aGv (CFi .u64) Zd underlying24 aO1 Z1 rfl Z1 h1) ?_
 iterate 3 refine pA ?_
 obtain ⟨x4,h3,hm⟩:=bnd hm;refine pu rfl (aGv (CFi .u64) Zd underlying24 aO1 Z1 rfl Z1 h3) ?_;refine pA ?_;obtain ⟨r6,h5,hm⟩:=bnd hm;refine aR.callQ (r:= .v (.bool r6)) Zd Z1 bWb (fun H=>(cV (cV .nil))) (aC7 h5) ?_;refine fs (AWp.condM hm Z1 (fun _ hm=>?_) (fun _ hm=>?_))
 ·
  refine sN 192 ?_
  iterate 2 refine pA ?_
  refine pu rfl (hZ Z1 Za Z2) ?_
  iterate 2 refine pA ?_
  refine aR.heap0 (id:=133) rfl (oF (ys:=[.v (.int .i64 (IntKind.i64.wrap (aKv+1)))]) sz3 Z1 Z1 Za rfl (lB rfl) Z9 rfl) ?_;refine fs (sN 256 ?_)
  iterate 4 refine pA ?_
  refine fs (AWp.ret (jF ?_));cases hm;exact bQk (.inr rfl) Tryz.results255 Z1 Z1 Zc
 ·
  refine AWp.skip (bQ (sN 192 ?_))
  iterate 4 refine pA ?_
  refine fs (AWp.ret ?_);cases hm;exact bQk (.inr rfl) Tryz.results255 Z1 Z1 Zc
def fX(aC:List Int)(a_1:Int)(b_2:Int)(c_3:Int)(aRy:Int):Option (Int×Int):=
 ((eT aC a_1 b_2 aRy).bind fun ⟨r3,r4,x2⟩=>
 ((eT aC r4 c_3 x2).bind fun ⟨r7,r8,x6⟩=>
 ((eT aC r3 r7 x6).bind fun ⟨r11,r12,x10⟩=>
 some (r12,x10))))
theorem sO{aC:List Int}{a_1:Int}{b_2:Int}{c_3:Int}{aRy:Int}{r:Int×Int}(hm:fX aC a_1 b_2 c_3 aRy=some r){H:aG}{i0:Nat}(he:H.ent i0= .cells 1 [.v (.int .i64 aRy)] 0):eQ prog 242 [.sl (aC.flatMap (ci .u64)) aC.length false,.v (.int .i64 a_1),.v (.int .i64 b_2),.v (.int .i64 c_3),.adr i0 0] H (.v (.int .i64 r.1)) (H.put i0 (.cells 1 [.v (.int .i64 r.2)] 0)):=by
 refine eQ.of_bodyM func242 rfl he ?_;generalize H.ent=h0;simp only [ntmps242,List.length_cons,List.length_nil,Nat.reduceAdd,Nat.reduceSub];unfold fX at hm;refine sN 64 (pA ?_);refine fs (sN 128 ?_)
 iterate 4 refine pA ?_
 obtain ⟨⟨r3,r4,x2⟩,h1,hm⟩:=bnd hm;refine aR.callM Zd Z1 bO9 Z1 (mF h1 Za) ?_
 iterate 5 refine pA ?_
 refine fs (sN 192 ?_)
 iterate 4 refine pA ?_
 obtain ⟨⟨r7,r8,x6⟩,h5,hm⟩:=bnd hm;refine aR.callM Zd Z1 bO9 Z1 (mF h5 Za) ?_
 iterate 5 refine pA ?_
 refine fs (sN 256 ?_)
 iterate 4 refine pA ?_
 obtain ⟨⟨r11,r12,x10⟩,h9,hm⟩:=bnd hm;refine aR.callM Zd Z1 bO9 Z1 (mF h9 Za) ?_
 iterate 5 refine pA ?_
 refine fs (sN 320 ?_)
 iterate 2 refine pA ?_
 refine fs (AWp.ret ?_);cases hm;exact bCa (.inr rfl) Tryz.results242 Z1 Zc
def dD(aC:List Int)(a_1:Int)(aRx:Int):Option (Int×Int):=
 ((fX aC (IntKind.i64.wrap (a_1-1)) a_1 (IntKind.i64.wrap (a_1+1)) aRx).bind fun ⟨r3,x2⟩=>
 some (r3,x2))
theorem jP{aC:List Int}{a_1:Int}{aRx:Int}{r:Int×Int}(hm:dD aC a_1 aRx=some r){H:aG}{i0:Nat}(he:H.ent i0= .cells 1 [.v (.int .i64 aRx)] 0):eQ prog 241 [.sl (aC.flatMap (ci .u64)) aC.length false,.v (.int .i64 a_1),.adr i0 0] H (.v (.int .i64 r.1)) (H.put i0 (.cells 1 [.v (.int .i64 r.2)] 0)):=by
 refine eQ.of_bodyM func241 rfl he ?_;generalize H.ent=h0;simp only [ntmps241,List.length_cons,List.length_nil,Nat.reduceAdd,Nat.reduceSub];unfold dD at hm;refine sN 64 (pA ?_);refine fs (sN 128 ?_)
 iterate 7 refine pA ?_
 obtain ⟨⟨r3,x2⟩,h1,hm⟩:=bnd hm;refine aR.callM Zd Z1 bWd Z1 (sO h1 Za) ?_;refine pA ?_;refine fs (AWp.ret ?_);cases hm;exact bCa (.inr rfl) Tryz.results241 Z1 Zc
attribute [local semireducible] aW
end Go.Proofs.YtkdohhmacfoolaaGreatDoor
