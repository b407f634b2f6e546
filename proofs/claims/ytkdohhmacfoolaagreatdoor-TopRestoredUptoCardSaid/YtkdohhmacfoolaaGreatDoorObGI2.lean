/- Facts. No condition. -/
import Derived.Test.YtkdohhmacfoolaaGreatDoorObGI1
set_option linter.unusedVariables false
set_option linter.unusedSimpArgs false
set_option maxRecDepth 20000
set_option maxHeartbeats 4000000
namespace Go.Proofs.YtkdohhmacfoolaaGreatDoor
open Go.Proofs.Tryz Go Go.AM
attribute [local irreducible] bC
structure bD where
 Do:Int
 A:Int
 B:Int
 Text:ByteArray
deriving DecidableEq
def cU(e:bD):List AV:=[.v (.int .i64 e.Do),.v (.int .u64 e.A),.v (.int .u64 e.B),.v (.string e.Text)]
theorem nD:CF cU 4:=⟨fun _=>rfl,fun a x hx=>by
 simp only [cU,List.mem_cons,List.not_mem_nil,or_false] at hx;rcases hx with rfl|rfl|rfl|rfl
 · exact (.v _)
 · exact (.v _)
 · exact (.v _)
 · exact (.v _),fun _=>rfl⟩
instance:CC cU 4:=⟨nD⟩
abbrev qO(e:bD):AV:= .agg [.v (.int .i64 e.Do),vu e.A,vu e.B,.v (.string e.Text)]
@[go_sem] theorem aJf(e:bD)(r:List AV):cU e++r= .v (.int .i64 e.Do):: .v (.int .u64 e.A):: .v (.int .u64 e.B):: .v (.string e.Text)::r:=rfl
structure aR where
 List:List Int
 At:Int
deriving DecidableEq
def aC6(e:aR):List AV:=[.sl (e.List.flatMap (ci .u64)) e.List.length false,.v (.int .i64 e.At)]
theorem aUp:CF aC6 2:=⟨fun _=>rfl,fun a x hx=>by
 simp only [aC6,List.mem_cons,List.not_mem_nil,or_false] at hx;rcases hx with rfl|rfl
 · exact ((CFi .u64).sl _ _ _)
 · exact (.v _),fun _=>rfl⟩
instance:CC aC6 2:=⟨aUp⟩
abbrev kC(e:aR):AV:= .agg [vl (ci .u64) e.List,vi e.At]
@[go_sem] theorem aP1(e:aR)(r:List AV):aC6 e++r= .sl (e.List.flatMap (ci .u64)) e.List.length false:: .v (.int .i64 e.At)::r:=rfl
structure aH where
 State:aC
 Words:aR
 On:Bool
deriving DecidableEq
def tD(e:aH):List AV:=[.v (.int .i64 e.State.Graph.Config.N),.v (.int .i64 e.State.Graph.Config.L),.v (.int .i64 e.State.Graph.Config.R),.sl (e.State.Graph.Hashes.flatMap bI) e.State.Graph.Hashes.length false,.sl (e.State.Graph.Edges.flatMap aO) e.State.Graph.Edges.length false,.sl (e.State.Slots.flatMap aT) e.State.Slots.length false,.sl (e.Words.List.flatMap (ci .u64)) e.Words.List.length false,.v (.int .i64 e.Words.At),.v (.bool e.On)]
theorem aMj:CF tD 9:=⟨fun _=>rfl,fun a x hx=>by
 simp only [tD,List.mem_cons,List.not_mem_nil,or_false] at hx;rcases hx with rfl|rfl|rfl|rfl|rfl|rfl|rfl|rfl|rfl
 · exact (.v _)
 · exact (.v _)
 · exact (.v _)
 · exact (iD.sl _ _ _)
 · exact (bT.sl _ _ _)
 · exact (cH.sl _ _ _)
 · exact ((CFi .u64).sl _ _ _)
 · exact (.v _)
 · exact (.v _),fun _=>rfl⟩
instance:CC tD 9:=⟨aMj⟩
abbrev kQ(e:aH):AV:= .agg [.v (.int .i64 e.State.Graph.Config.N),vi e.State.Graph.Config.L,vi e.State.Graph.Config.R,vl bI e.State.Graph.Hashes,vl aO e.State.Graph.Edges,vl aT e.State.Slots,vl (ci .u64) e.Words.List,vi e.Words.At,vb e.On]
@[go_sem] theorem aIj(e:aH)(r:List AV):tD e++r= .v (.int .i64 e.State.Graph.Config.N):: .v (.int .i64 e.State.Graph.Config.L):: .v (.int .i64 e.State.Graph.Config.R):: .sl (e.State.Graph.Hashes.flatMap bI) e.State.Graph.Hashes.length false:: .sl (e.State.Graph.Edges.flatMap aO) e.State.Graph.Edges.length false:: .sl (e.State.Slots.flatMap aT) e.State.Slots.length false:: .sl (e.Words.List.flatMap (ci .u64)) e.Words.List.length false:: .v (.int .i64 e.Words.At):: .v (.bool e.On)::r:=rfl
@[go_sem] theorem bFs(i o:Nat):aM prog 23 (.adr i o) 0=some (.adr i (o+0)):=by kernel_rfl
@[go_sem] theorem bFz(i o:Nat):aM prog 23 (.adr i o) 1=some (.adr i (o+1)):=by kernel_rfl
@[go_sem] theorem bG5(i o:Nat):aM prog 23 (.adr i o) 2=some (.adr i (o+2)):=by kernel_rfl
@[go_sem] theorem bGc(i o:Nat):aM prog 30 (.adr i o) 0=some (.adr i (o+0)):=by kernel_rfl
@[go_sem] theorem bGf(i o:Nat):aM prog 30 (.adr i o) 1=some (.adr i (o+3)):=by kernel_rfl
@[go_sem] theorem bGl(i o:Nat):aM prog 30 (.adr i o) 2=some (.adr i (o+4)):=by kernel_rfl
@[go_sem] theorem bGo(i o:Nat):aM prog 33 (.adr i o) 0=some (.adr i (o+0)):=by kernel_rfl
@[go_sem] theorem bGr(i o:Nat):aM prog 33 (.adr i o) 1=some (.adr i (o+5)):=by kernel_rfl
@[go_sem] theorem bGs(i o:Nat):aM prog 35 (.adr i o) 0=some (.adr i (o+0)):=by kernel_rfl
@[go_sem] theorem bGu(i o:Nat):aM prog 35 (.adr i o) 1=some (.adr i (o+1)):=by kernel_rfl
@[go_sem] theorem bGw(i o:Nat):aM prog 42 (.adr i o) 0=some (.adr i (o+0)):=by kernel_rfl
@[go_sem] theorem bGy(i o:Nat):aM prog 42 (.adr i o) 1=some (.adr i (o+1)):=by kernel_rfl
@[go_sem] theorem bH0(i o:Nat):aM prog 42 (.adr i o) 2=some (.adr i (o+2)):=by kernel_rfl
@[go_sem] theorem bH2(i o:Nat):aM prog 42 (.adr i o) 3=some (.adr i (o+3)):=by kernel_rfl
@[go_sem] theorem bH8(i o:Nat):aM prog 61 (.adr i o) 0=some (.adr i (o+0)):=by kernel_rfl
@[go_sem] theorem bHe(i o:Nat):aM prog 61 (.adr i o) 1=some (.adr i (o+1)):=by kernel_rfl
@[go_sem] theorem bHj(i o:Nat):aM prog 61 (.adr i o) 2=some (.adr i (o+2)):=by kernel_rfl
@[go_sem] theorem bHk(i o:Nat):aM prog 68 (.adr i o) 0=some (.adr i (o+0)):=by kernel_rfl
@[go_sem] theorem bHm(i o:Nat):aM prog 68 (.adr i o) 2=some (.adr i (o+8)):=by kernel_rfl
@[go_sem] theorem bHp(i o:Nat):aM prog 94 (.adr i o) 0=some (.adr i (o+0)):=by kernel_rfl
@[go_sem] theorem bHs(i o:Nat):aM prog 94 (.adr i o) 1=some (.adr i (o+1)):=by kernel_rfl
@[go_sem] theorem bHu(i o:Nat):aM prog 96 (.adr i o) 0=some (.adr i (o+0)):=by kernel_rfl
@[go_sem] theorem bHw(i o:Nat):aM prog 96 (.adr i o) 1=some (.adr i (o+1)):=by kernel_rfl
@[go_sem] theorem bL2(H:aI)(x0:AV)(xs:List AV):bW prog H 147 (.ptr (x0::xs))=some (.agg [x0]):=by kernel_rfl
@[go_sem] theorem bO2(H:aI)(x0 x1 x2:AV)(xs:List AV):bW prog H 23 (.ptr (x0::x1::x2::xs))=some (.agg [x0,x1,x2]):=by kernel_rfl
@[go_sem] theorem bO6(H:aI)(x:AV)(xs:List AV):bW prog H 24 (.ptr (x::xs))=some x:=by kernel_rfl
@[go_sem] theorem bOa(H:aI)(x:AV)(xs:List AV):bW prog H 27 (.ptr (x::xs))=some x:=by kernel_rfl
@[go_sem] theorem bOg(H:aI)(x:AV)(xs:List AV):bW prog H 28 (.ptr (x::xs))=some x:=by kernel_rfl
@[go_sem] theorem bSe(H:aI)(x:AV)(xs:List AV):bW prog H 3 (.ptr (x::xs))=some x:=by kernel_rfl
@[go_sem] theorem bOm(H:aI)(x0 x1 x2 x3 x4:AV)(xs:List AV):bW prog H 30 (.ptr (x0::x1::x2::x3::x4::xs))=some (.agg [x0,x1,x2,x3,x4]):=by kernel_rfl
@[go_sem] theorem bOq(H:aI)(x:AV)(xs:List AV):bW prog H 31 (.ptr (x::xs))=some x:=by kernel_rfl
@[go_sem] theorem bOs(H:aI)(x0 x1 x2 x3 x4 x5:AV)(xs:List AV):bW prog H 33 (.ptr (x0::x1::x2::x3::x4::x5::xs))=some (.agg [x0,x1,x2,x3,x4,x5]):=by kernel_rfl
@[go_sem] theorem bSk(H:aI)(x:AV)(xs:List AV):bW prog H 4 (.ptr (x::xs))=some x:=by kernel_rfl
@[go_sem] theorem bP0(H:aI)(x:AV)(xs:List AV):bW prog H 40 (.ptr (x::xs))=some x:=by kernel_rfl
@[go_sem] theorem bP2(H:aI)(x0 x1 x2 x3:AV)(xs:List AV):bW prog H 42 (.ptr (x0::x1::x2::x3::xs))=some (.agg [x0,x1,x2,x3]):=by kernel_rfl
@[go_sem] theorem bP9(H:aI)(x0 x1 x2:AV)(xs:List AV):bW prog H 61 (.ptr (x0::x1::x2::xs))=some (.agg [x0,x1,x2]):=by kernel_rfl
@[go_sem] theorem bPa(H:aI)(x0 x1 x2 x3 x4 x5 x6 x7 x8:AV)(xs:List AV):bW prog H 68 (.ptr (x0::x1::x2::x3::x4::x5::x6::x7::x8::xs))=some (.agg [x0,x1,x2,x3,x4,x5,x6,x7,x8]):=by kernel_rfl
@[go_sem] theorem bSm(H:aI)(x:AV)(xs:List AV):bW prog H 9 (.ptr (x::xs))=some x:=by kernel_rfl
@[go_sem] theorem bPe(H:aI)(x0 x1:AV)(xs:List AV):bW prog H 94 (.ptr (x0::x1::xs))=some (.agg [x0,x1]):=by kernel_rfl
@[go_sem] theorem bPh(H:aI)(x0 x1:AV)(xs:List AV):bW prog H 96 (.ptr (x0::x1::xs))=some (.agg [x0,x1]):=by kernel_rfl
@[go_sem] theorem bF7(H:aI)(k:IntKind)(n:Int):nE prog H 3 40 (.v (.int k n))=some (.v (.int .u64 (IntKind.u64.wrap n))):=iA underlying3 underlying40
@[go_sem] theorem bK0(H:aI)(k:IntKind)(n:Int):nE prog H 5 3 (.v (.int k n))=some (.v (.int .i64 (IntKind.i64.wrap n))):=iA underlying5 underlying3
@[go_sem] theorem bFd(H:aI)(k:IntKind)(n:Int):nE prog H 5 40 (.v (.int k n))=some (.v (.int .u64 (IntKind.u64.wrap n))):=iA underlying5 underlying40
@[go_sem] theorem bB5(H:aI)(k:IntKind)(n:Int):nE prog H 21 40 (.v (.int k n))=some (.v (.int .u64 (IntKind.u64.wrap n))):=iA underlying21 underlying40
@[go_sem] theorem bF9(H:aI)(k:IntKind)(n:Int):nE prog H 40 3 (.v (.int k n))=some (.v (.int .i64 (IntKind.i64.wrap n))):=iA underlying40 underlying3
abbrev aHv(rec3:aC→List Int→List aN→Int→Int→Option (ByteArray×Int))(s_1:aC)(b_5:List Int)(t58:List aN)(t59:Int)(t60:Int):Option (ByteArray×Int):=
 rec3 s_1 b_5 t58 t59 (IntKind.i64.wrap (t60+1))
abbrev yU(rec3:aC→List Int→List aN→Int→Int→Option (ByteArray×Int))(s_1:aC)(b_5:List Int)(aIc:aN)(aMd:Int)(t58:List aN)(t59:Int)(t60:Int):Option (ByteArray×Int):=
 ((jG b_5 aMd 1).bind fun l16=>
 ((jG l16 aIc.Key 8).bind fun l18=>
 aHv rec3 s_1 l18 t58 t59 t60))
def aHu(rec4:List Int→List aD→Int→Int→Option (ByteArray×Int))(b_5:List Int)(t83:List aD)(t84:Int)(t85:Int):Option (ByteArray×Int):=
 (bif (decide (t85<t84)) then
  ((idx t83 t85).bind fun x22=>
  ((jG b_5 (IntKind.u64.wrap x22.U) 2).bind fun l24=>
  ((jG l24 (IntKind.u64.wrap x22.V) 2).bind fun l26=>
  ((jG l26 (IntKind.u64.wrap x22.Tier) 1).bind fun l28=>
  rec4 l28 t83 t84 (IntKind.i64.wrap (t85+1))))))
 else
  ((aId (nF b_5)).bind fun r30=>
  ((jG b_5 r30 8).bind fun l32=>
  some ((nF l32),0))))
def uF:Nat→List Int→List aD→Int→Int→Option (ByteArray×Int)
 |0=>fun _ _ _ _=>none
 |n+1=>aHu (uF n)
def aHt(rec3:aC→List Int→List aN→Int→Int→Option (ByteArray×Int))(s_1:aC)(b_5:List Int)(t58:List aN)(t59:Int)(t60:Int):Option (ByteArray×Int):=
 (bif (decide (t60<t59)) then
  ((idx t58 t60).bind fun x14=>
  (bif x14.Used then
   yU rec3 s_1 b_5 x14 1 t58 t59 t60
  else
   yU rec3 s_1 b_5 x14 0 t58 t59 t60))
 else
  ((jG b_5 (IntKind.u64.wrap (s_1.Graph.Edges.length:Int)) 4).bind fun l20=>
  uF bC l20 s_1.Graph.Edges (s_1.Graph.Edges.length:Int) 0))
def kB:Nat→aC→List Int→List aN→Int→Int→Option (ByteArray×Int)
 |0=>fun _ _ _ _ _=>none
 |n+1=>aHt (kB n)
def aHs(rec2:aC→List Int→List bM→Int→Int→Option (ByteArray×Int))(s_1:aC)(b_5:List Int)(t42:List bM)(t43:Int)(t44:Int):Option (ByteArray×Int):=
 (bif (decide (t44<t43)) then
  ((idx t42 t44).bind fun x8=>
  ((jG b_5 x8.A 8).bind fun l10=>
  ((jG l10 x8.B 8).bind fun l12=>
  rec2 s_1 l12 t42 t43 (IntKind.i64.wrap (t44+1)))))
 else
  kB bC s_1 b_5 s_1.Slots (s_1.Slots.length:Int) 0)
def qK:Nat→aC→List Int→List bM→Int→Int→Option (ByteArray×Int)
 |0=>fun _ _ _ _ _=>none
 |n+1=>aHs (qK n)
def yT(rec1:aC→List Int→List Int→Int→Int→Option (ByteArray×Int))(s_1:aC)(b_5:List Int)(t29:List Int)(t30:Int)(t31:Int):Option (ByteArray×Int):=
 (bif (decide (t31<t30)) then
  ((idx t29 t31).bind fun x4=>
  ((jG b_5 (IntKind.u64.wrap x4) 2).bind fun l6=>
  rec1 s_1 l6 t29 t30 (IntKind.i64.wrap (t31+1))))
 else
  qK bC s_1 b_5 s_1.Graph.Hashes (s_1.Graph.Hashes.length:Int) 0)
def lD:Nat→aC→List Int→List Int→Int→Int→Option (ByteArray×Int)
 |0=>fun _ _ _ _ _=>none
 |n+1=>yT (lD n)
def tR(s_0:aC):Option (ByteArray×Int):=
 ((lC s_0).bind fun r2=>
 (bif (!r2) then
  some (⟨#[]⟩,1)
 else
  lD bC s_0 [82,65,70,84] [s_0.Graph.Config.N,s_0.Graph.Config.L,s_0.Graph.Config.R] (([s_0.Graph.Config.N,s_0.Graph.Config.L,s_0.Graph.Config.R]).length:Int) 0))
theorem aKa{s_0:aC}{r:ByteArray×Int}(hm:tR s_0=some r):bO prog 13 [.agg [vi s_0.Graph.Config.N,vi s_0.Graph.Config.L,vi s_0.Graph.Config.R,vl bI s_0.Graph.Hashes,vl aO s_0.Graph.Edges,vl aT s_0.Slots]] (.tup [.v (.string r.1),vi r.2]):=by
 refine bd 111 func13 ?_;obtain ⟨r2,h1,hm⟩:=bnd hm;refine W ?_;refine cq (aOs h1) ?_;refine W ?_;refine cm hm (fun hm=>?_) fun hm=>?_
 · exact E
 iterate 9 refine S1 ?_
 refine AWp.seq' ?_;refine AWp.regL (N':=256) [82,65,70,84] rfl rfl underlying91 underlying5 sz5 zc5 Z5 Zd Zd rfl (by simp only [go_sem,Nat.reduceBEq];try rfl) (by kernel_rfl) rfl rfl ?_;refine W ?_;refine aL (CFi .i64) [s_0.Graph.Config.N,s_0.Graph.Config.L,s_0.Graph.Config.R] ?_;refine W ?_;refine lp (fun m s=> ∃s_1 b_5 t29 t30 t31,s=⟨111,(aE (aE (aE (aE (aE fa 1 (.adr 1 0)) 5 (.own 2 0 b_5.length)) 29 (.own 3 0 t29.length)) 30 (vi t30)) 31 (vi t31)),⟨(upd (upd (upd aZ 1 (.cells 1 [vi s_1.Graph.Config.N,vi s_1.Graph.Config.L,vi s_1.Graph.Config.R,vl bI s_1.Graph.Hashes,vl aO s_1.Graph.Edges,vl aT s_1.Slots] 0)) 2 (.cells 1 (b_5.flatMap (ci .u8)) 0)) 3 (.cells 1 (t29.flatMap (ci .i64)) 0)),64⟩⟩∧lD m s_1 b_5 t29 t30 t31=some r) (Lr (fun j=>bif j==1 then 0 else bif j==2 then 192 else bif j==3 then 262 else 0)) ?_;rintro n1 s ⟨s_1,b_5,t29,t30,t31,rfl,hm⟩;refine W ?_;refine cm hm (fun hm=>?_) fun hm=>?_
 · obtain ⟨x4,h3,hm⟩:=bnd hm;obtain ⟨l6,h5,hm⟩:=bnd hm;refine W ?_;refine aW.callA Zd Z1 aSh Z1 (nY h5 (J:=195) Z3 (aIp Z5) Zd Zd KF DF) ?_;refine W ?_;exact Lr (fun j=>bif j==1 then 1 else bif j==2 then 195 else bif j==3 then 3 else 0)
 refine W ?_;refine lp (fun m s=> ∃s_1 b_5 t42 t43 t44,s=⟨111,(aE (aE (aE (aE (aE fa 1 (.adr 1 0)) 5 (.own 2 0 b_5.length)) 42 (vl bI t42)) 43 (vi t43)) 44 (vi t44)),⟨(upd (upd aZ 1 (.cells 1 [vi s_1.Graph.Config.N,vi s_1.Graph.Config.L,vi s_1.Graph.Config.R,vl bI s_1.Graph.Hashes,vl aO s_1.Graph.Edges,vl aT s_1.Slots] 0)) 2 (.cells 1 (b_5.flatMap (ci .u8)) 0)),64⟩⟩∧qK m s_1 b_5 t42 t43 t44=some r) (Lr (fun j=>bif j==1 then 1 else bif j==2 then 2 else 0)) ?_;rintro n2 s ⟨s_1,b_5,t42,t43,t44,rfl,hm⟩;refine W ?_;refine cm hm (fun hm=>?_) fun hm=>?_
 · obtain ⟨x8,h7,hm⟩:=bnd hm;obtain ⟨l10,h9,hm⟩:=bnd hm;refine W ?_;refine aW.callA Zd Z1 aSh Z1 (nY h9 (J:=195) Z3 (aIp Z5) Zd Zd KF DF) ?_;obtain ⟨l12,h11,hm⟩:=bnd hm;refine W ?_;refine aW.callA Zd Z1 aSh Z1 (nY h11 (J:=259) Z3 (aIp Z5) Zd Zd KF DF) ?_;refine W ?_;exact Lr (fun j=>bif j==1 then 1 else bif j==2 then 259 else 0)
 refine W ?_;refine lp (fun m s=> ∃s_1 b_5 t58 t59 t60,s=⟨111,(aE (aE (aE (aE (aE fa 1 (.adr 1 0)) 5 (.own 2 0 b_5.length)) 58 (vl aT t58)) 59 (vi t59)) 60 (vi t60)),⟨(upd (upd aZ 1 (.cells 1 [vi s_1.Graph.Config.N,vi s_1.Graph.Config.L,vi s_1.Graph.Config.R,vl bI s_1.Graph.Hashes,vl aO s_1.Graph.Edges,vl aT s_1.Slots] 0)) 2 (.cells 1 (b_5.flatMap (ci .u8)) 0)),64⟩⟩∧kB m s_1 b_5 t58 t59 t60=some r) (Lr (fun j=>bif j==1 then 1 else bif j==2 then 2 else 0)) ?_;rintro n3 s ⟨s_1,b_5,t58,t59,t60,rfl,hm⟩;refine W ?_;refine cm hm (fun hm=>?_) fun hm=>?_
 ·
  refine V ?_;refine AWp.seqJ (fun s=> ∃s_1 b_5 t58 t59 t60,s=⟨111,(aE (aE (aE (aE (aE fa 1 (.adr 1 0)) 5 (.own 2 0 b_5.length)) 58 (vl aT t58)) 59 (vi t59)) 60 (vi t60)),⟨(upd (upd aZ 1 (.cells 1 [vi s_1.Graph.Config.N,vi s_1.Graph.Config.L,vi s_1.Graph.Config.R,vl bI s_1.Graph.Hashes,vl aO s_1.Graph.Edges,vl aT s_1.Slots] 0)) 2 (.cells 1 (b_5.flatMap (ci .u8)) 0)),64⟩⟩∧aHv (kB n3) s_1 b_5 t58 t59 t60=some r) ?_ ?_
  ·
   obtain ⟨x14,h13,hm⟩:=bnd hm;refine V ?_;refine AWp.seqJ (fun s=> ∃s_1 b_5 aIc aMd t58 t59 t60,s=⟨111,(aE (aE (aE (aE (aE (aE (aE fa 1 (.adr 1 0)) 5 (.own 2 0 b_5.length)) 11 (.adr 3 0)) 12 (vu aMd)) 58 (vl aT t58)) 59 (vi t59)) 60 (vi t60)),⟨(upd (upd (upd aZ 1 (.cells 1 [vi s_1.Graph.Config.N,vi s_1.Graph.Config.L,vi s_1.Graph.Config.R,vl bI s_1.Graph.Hashes,vl aO s_1.Graph.Edges,vl aT s_1.Slots] 0)) 2 (.cells 1 (b_5.flatMap (ci .u8)) 0)) 3 (.cells 1 [vb aIc.Used,vu aIc.Key] 0)),64⟩⟩∧yU (kB n3) s_1 b_5 aIc aMd t58 t59 t60=some r) ?_ ?_
   ·
    refine W ?_;refine cm hm (fun hm=>?_) fun hm=>?_
    · refine W ?_;exact Lr (fun j=>bif j==1 then 1 else bif j==2 then 2 else bif j==3 then 130 else 0)
    refine W ?_;exact Lr (fun j=>bif j==1 then 1 else bif j==2 then 2 else bif j==3 then 130 else 0)
   rintro s ⟨s_1,b_5,aIc,aMd,t58,t59,t60,rfl,hm⟩;obtain ⟨l16,h15,hm⟩:=bnd hm;refine W ?_;refine aW.callA Zd Z1 aSh Z1 (nY h15 (J:=66) Z3 (aIp Z5) Zd Zd KF DF) ?_;obtain ⟨l18,h17,hm⟩:=bnd hm;refine W ?_;refine aW.callA Zd Z1 aSh Z1 (nY h17 (J:=131) Z3 (aIp Z5) Zd Zd KF DF) ?_;refine W ?_;exact Lr (fun j=>bif j==1 then 1 else bif j==2 then 131 else 0)
  rintro s ⟨s_1,b_5,t58,t59,t60,rfl,hm⟩;refine W ?_;exact Lr (fun j=>bif j==1 then 1 else bif j==2 then 2 else 0)
 obtain ⟨l20,h19,hm⟩:=bnd hm;refine W ?_;refine aW.callA Zd Z1 aSh Z1 (nY h19 (J:=134) Z3 (aIp Z5) Zd Zd KF DF) ?_;refine W ?_;refine lp (fun m s=> ∃b_5 t83 t84 t85,s=⟨111,(aE (aE (aE (aE fa 5 (.own 1 0 b_5.length)) 83 (vl aO t83)) 84 (vi t84)) 85 (vi t85)),⟨(upd aZ 1 (.cells 1 (b_5.flatMap (ci .u8)) 0)),64⟩⟩∧uF m b_5 t83 t84 t85=some r) (Lr (fun j=>bif j==1 then 134 else 0)) ?_;rintro n4 s ⟨b_5,t83,t84,t85,rfl,hm⟩;refine W ?_;refine cm hm (fun hm=>?_) fun hm=>?_
 · obtain ⟨x22,h21,hm⟩:=bnd hm;obtain ⟨l24,h23,hm⟩:=bnd hm;refine W ?_;refine aW.callA Zd Z1 aSh Z1 (nY h23 (J:=196) Z3 (aIp Z5) Zd Zd KF DF) ?_;obtain ⟨l26,h25,hm⟩:=bnd hm;refine W ?_;refine aW.callA Zd Z1 aSh Z1 (nY h25 (J:=260) Z3 (aIp Z5) Zd Zd KF DF) ?_;obtain ⟨l28,h27,hm⟩:=bnd hm;refine W ?_;refine aW.callA Zd Z1 aSh Z1 (nY h27 (J:=324) Z3 (aIp Z5) Zd Zd KF DF) ?_;refine W ?_;exact Lr (fun j=>bif j==1 then 324 else 0)
 refine W ?_;refine pu rfl (aXr underlying91 underlying9 underlying5 Z1 Z3 Z6) ?_;obtain ⟨r30,h29,hm⟩:=bnd hm;refine cq (aUe h29) ?_;obtain ⟨l32,h31,hm⟩:=bnd hm;refine aW.callA Zd Z1 aSh Z1 (nY h31 (J:=132) Z3 (aIp Z5) Zd Zd KF DF) ?_;refine pu rfl (aXr underlying91 underlying9 underlying5 Z1 Z3 Z6) ?_;exact E
instance:Ct prog 13 (K1 prog dI (t2 vs vi) 13 tR):=⟨fun hm=>aKa hm⟩
def eK(s_0:aC)(wB:Int)(u_2:Int)(v_3:Int):Option (GA):=
 ((mM s_0.Graph).bind fun r2=>
 (bif (wB==5) then
  ((mV s_0.Graph.Edges u_2 v_3).bind fun ⟨r4,r5⟩=>
  some (GA.b 4 r5))
 else
  (bif (wB==6) then
   ((nP s_0 u_2).bind fun r7=>
   some (GA.i 3 .i64 r7))
  else
   (bif (wB==7) then
    ((uA s_0 u_2).bind fun r9=>
    ((mJ s_0 r9).bind fun r11=>
    some (GA.lu 24 r11)))
   else
    (bif (wB==8) then
     ((idx r2 u_2).bind fun x13=>
     ((idx r2 v_3).bind fun x15=>
     some (GA.b 4 (x13==x15))))
    else
     (bif (wB==9) then
      ((pH r2 u_2).bind fun r17=>
      ((mJ s_0 r17).bind fun r19=>
      some (GA.i 3 .i64 (r19.length:Int))))
     else
      (bif (wB==10) then
       ((uX s_0 r2).bind fun r21=>
       some (GA.i 3 .i64 r21))
      else
       (bif (wB==11) then
        ((pH r2 u_2).bind fun r23=>
        ((mJ s_0 r23).bind fun r25=>
        some (GA.lu 24 r25)))
       else
        (bif (wB==12) then
         ((xL s_0).bind fun r27=>
         some (GA.lp 157 r27))
        else
         (bif (wB==13) then
          ((uL s_0.Graph).bind fun r29=>
          some (GA.b 4 r29))
         else
          ((tR s_0).bind fun ⟨r31,r32⟩=>
          some (GA.s 9 r31))))))))))))
theorem aSj:K4 prog dI vi vi vi GA.av 40 eK:=fun hm=>be 98 func40 (h:=G)
instance:Ct prog 40 (K4 prog dI vi vi vi GA.av 40 eK):=⟨aSj⟩
def nA(f_1:(aN→Option (Bool)))(rec1:List aN→Int→Int→Option (Int))(s_0:List aN)(t7:Int)(t8:Int):Option (Int):=
 (bif (decide (t8<t7)) then
  ((idx s_0 t8).bind fun x2=>
  ((f_1 x2).bind fun r4=>
  (bif r4 then
   some t8
  else
   rec1 s_0 t7 (IntKind.i64.wrap (t8+1)))))
 else
  some (-1))
def fQ(f_1:(aN→Option (Bool))):Nat→List aN→Int→Int→Option (Int)
 |0=>fun _ _ _=>none
 |n+1=>nA f_1 (fQ f_1 n)
def oG(s_0:List aN)(f_1:(aN→Option (Bool))):Option (Int):=
 fQ f_1 bC s_0 (s_0.length:Int) 0
theorem aGe{s_0:List aN}{f_1:(aN→Option (Bool))}{r:Int}(hm:oG s_0 f_1=some r){aL1:FuncId}{zW:List AV}(aQm: ∀a,a∈zW→AM.Data a)(bBy:(Program.funcs prog)[aL1]?.any (fun fn=>fn.body.isSome&&fn.name != "runtime.NumGoroutine")=true)(bC1: ∀ {x0 r},f_1 x0=some r→bO prog aL1 ([.agg [vb x0.Used,vu x0.Key]]++zW) (vb r)):bO prog 127 [vl aT s_0,.clo (.func aL1) [] zW] (vi r):=by
 refine bd 19 func127 ?_;refine W ?_;refine lp (fun m s=> ∃s_0 t7 t8,s=⟨19,(aE (aE (aE (aE fa 0 (vl aT s_0)) 1 (.clo (.func aL1) [] zW)) 7 (vi t7)) 8 (vi t8)),⟨aZ,64⟩⟩∧fQ f_1 m s_0 t7 t8=some r) L ?_;rintro n1 s ⟨s_0,t7,t8,rfl,hm⟩;refine W ?_;refine cm hm (fun hm=>?_) fun hm=>?_
 ·
  obtain ⟨x2,h1,hm⟩:=bnd hm;obtain ⟨r4,h3,hm⟩:=bnd hm;refine W ?_;refine aW.callQC (r:= .v (.bool r4)) Zd Z1 aQm bBy (fun H=>(cD (.agg _ (cH.dat _)) .nil)) (bC1 h3) ?_;refine W ?_;refine cm hm (fun hm=>?_) fun hm=>?_
  · exact E
  exact L
 exact E
def jY(bT2:aN):Option (Bool):=
 some (!bT2.Used)
theorem aMf:K1 prog aOw vb 128 jY:=fun hm=>be 6 func128 (h:=G)
instance:Ct prog 128 (K1 prog aOw vb 128 jY):=⟨aMf⟩
def iM(l:List aN):Option (List aN):=app [] l
theorem aK6{r:List aN}(hm:some []=some r):eE prog 129 [.v (.slice none 0 0)] 2 (r.flatMap aT) r.length:=by
 refine eE.of_body func129 rfl (cH.fmdat r) ?_;simp only [ntmps129,List.length_cons,List.length_nil,Nat.reduceAdd,Nat.reduceSub,gD];refine sN 64 (pA ?_);refine fs (AWp.seq' (sN 128 (pA ?_)));refine pu rfl (yZ Z1 Z1 (aKf underlying31)) ?_;refine fs (AWp.condT Z1 ?_);refine sN 192 (pA ?_);refine fs (AWp.weaken (rQ 2 900002 2 Z1 Z5) ?_);refine AWp.ret (hZ ?_);cases hm;exact aLp (.inr rfl) Tryz.results129 Z1 Z3 Z6
theorem aK7{a:Addr}{c:Nat}{r:List aN}(hm:((app [] []).bind fun l2=>
some l2)=some r):eE prog 129 [.v (.slice (some a) 0 c)] 2 (r.flatMap aT) r.length:=by
 refine eE.of_body func129 rfl (cH.fmdat r) ?_;simp only [ntmps129,List.length_cons,List.length_nil,Nat.reduceAdd,Nat.reduceSub,gD];refine sN 64 (pA ?_);refine fs (AWp.seq' (sN 128 (pA ?_)));refine pu rfl (yZ Z1 Z1 (aI3 underlying31)) ?_;refine fs (AWp.condF Z1 ?_);refine AWp.skip (bJ (sN 192 (hp (id:=128) rfl rfl (iT cH (l:=[]) underlying31 bM7 bMl Z5 Zd Zd Zd (by simp only [go_sem,Nat.reduceBEq];try rfl) (by kernel_rfl)) ?_)));refine pA ?_;obtain ⟨l2,h1,hm⟩:=bnd hm;refine hp (id:=130) rfl rfl (tH cH underlying31 underlying31 rfl bNw bQb (by rw [aZt];decide) (by rw [aZt];decide) bQd Zd Zd Z1 Z3 Z6 (aPl Z1) rfl Z5 h1) ?_;refine pA ?_;refine fs (AWp.ret ?_);cases hm;exact aLp (.inr rfl) Tryz.results129 Z1 Z3 Z6
theorem aK8{x0:aN}{l0:List aN}{r:List aN}(hm:((app [] (x0::l0)).bind fun l2=>
some l2)=some r):eE prog 129 [.sl ((x0::l0).flatMap aT) (x0::l0).length false] 2 (r.flatMap aT) r.length:=by
 refine eE.of_body func129 rfl (cH.fmdat r) ?_;simp only [ntmps129,List.length_cons,List.length_nil,Nat.reduceAdd,Nat.reduceSub,gD];refine sN 64 (pA ?_);refine fs (AWp.seq' (sN 128 (pA ?_)));refine pu rfl (yZ Z1 Z1 (aI2 underlying31 (by simp))) ?_;refine fs (AWp.condF Z1 ?_);refine AWp.skip (bJ (sN 192 (hp (id:=128) rfl rfl (iT cH (l:=[]) underlying31 bM7 bMl Z5 Zd Zd Zd (by simp only [go_sem,Nat.reduceBEq];try rfl) (by kernel_rfl)) ?_)));refine pA ?_;obtain ⟨l2,h1,hm⟩:=bnd hm;refine hp (id:=130) rfl rfl (tH cH underlying31 underlying31 rfl bNw bQb (by rw [aZt];decide) (by rw [aZt];decide) bQd Zd Zd Z1 Z3 Z6 (aTj cH Z1 rfl) rfl Z5 h1) ?_;refine pA ?_;refine fs (AWp.ret ?_);cases hm;exact aLp (.inr rfl) Tryz.results129 Z1 Z3 Z6
theorem aCm{l r:List aN}(hm:iM l=some r):eE prog 129 [.sl (l.flatMap aT) l.length false] 2 (r.flatMap aT) r.length:=by
 cases l with
 |nil=>
  have hr:r=[]:=by unfold iM app at hm;simpa using hm.symm
  subst hr;exact eE.nil_arg (aK6 (r:=[]) rfl) (fun a c=>aK7 (r:=[]) rfl)
 |cons x0 l0=>
  refine aK8 ?_;show (app [] (x0::l0)).bind _=_;unfold iM at hm;rw [hm];rfl
def aBy(l_0:List aN)(iG:Int):Option ((List aN)×Int×Int):=
 ((lG l_0).bind fun ⟨r2,r3⟩=>
 (bif (!r3) then
  some (l_0,0,1)
 else
  ((tX r2 iG).bind fun ⟨r5,r6⟩=>
  (bif r6 then
   some (l_0,0,4)
  else
   ((oG l_0 (fun x0=>jY x0)).bind fun r8=>
   (bif (decide (r8<0)) then
    some (l_0,0,10)
   else
    ((iM l_0).bind fun r10=>
    ((idx r10 r8).bind fun x12=>
    ((stt r10 r8 (aN.mk true iG)).bind fun l14=>
    some (l14,r8,0))))))))))
theorem bD2{l_0:List aN}{iG:Int}{r:(List aN)×Int×Int}(hm:aBy l_0 iG=some r):bO prog 87 [vl aT l_0,vu iG] (.tup [vl aT r.1,vi r.2.1,vi r.2.2]):=by
 refine bd 43 func87 ?_;refine W ?_;obtain ⟨⟨r2,r3⟩,h1,hm⟩:=bnd hm;refine cq (aG1 h1) ?_;refine W ?_;refine cm hm (fun hm=>?_) fun hm=>?_
 · exact E
 refine W ?_;obtain ⟨⟨r5,r6⟩,h4,hm⟩:=bnd hm;refine cq (aMw h4) ?_;refine W ?_;refine cm hm (fun hm=>?_) fun hm=>?_
 · exact E
 obtain ⟨r8,h7,hm⟩:=bnd hm;refine W ?_;refine aW.callQ (r:= .v (.int .i64 r8)) Zd Z1 bUe (fun H=>(cD (cH.sl _ _ _) (cD (bK1 aGr) .nil))) (aGe h7 aGr bUf (fun h=>aMf h)) ?_;refine W ?_;refine cm hm (fun hm=>?_) fun hm=>?_
 · exact E
 obtain ⟨r10,h9,hm⟩:=bnd hm;refine W ?_;refine aW.callF (id:=449) Zd Z1 bQn (fun H=>(cD (cH.sl _ _ _) .nil)) cH Z5 (aCm h9) ?_;refine W ?_;refine bU (.agg [vb true,vu iG]) ?_;obtain ⟨x12,h11,hm⟩:=bnd hm;obtain ⟨l14,h13,hm⟩:=bnd hm;refine W ?_;have qh13:=lF h13;refine aS h13 ?_;exact E
instance:Ct prog 87 (K2 prog (vl aT) vu (t3 (vl aT) vi vi) 87 aBy):=⟨fun hm=>bD2 hm⟩
def tB(l_0:List aN)(iG:Int):Option ((List aN)×Int):=
 ((lG l_0).bind fun ⟨r2,r3⟩=>
 (bif (!r3) then
  some (l_0,1)
 else
  ((tX r2 iG).bind fun ⟨r5,r6⟩=>
  (bif (!r6) then
   some (l_0,7)
  else
   ((iM l_0).bind fun r8=>
   ((idx r8 r5).bind fun x10=>
   ((stt r8 r5 (aN.mk false 0)).bind fun l12=>
   some (l12,0))))))))
theorem aTc{l_0:List aN}{iG:Int}{r:(List aN)×Int}(hm:tB l_0 iG=some r):bO prog 88 [vl aT l_0,vu iG] (.tup [vl aT r.1,vi r.2]):=by
 refine bd 35 func88 ?_;refine W ?_;obtain ⟨⟨r2,r3⟩,h1,hm⟩:=bnd hm;refine cq (aG1 h1) ?_;refine W ?_;refine cm hm (fun hm=>?_) fun hm=>?_
 · exact E
 refine W ?_;obtain ⟨⟨r5,r6⟩,h4,hm⟩:=bnd hm;refine cq (aMw h4) ?_;refine W ?_;refine cm hm (fun hm=>?_) fun hm=>?_
 · exact E
 obtain ⟨r8,h7,hm⟩:=bnd hm;refine W ?_;refine aW.callF (id:=321) Zd Z1 bQn (fun H=>(cD (cH.sl _ _ _) .nil)) cH Z5 (aCm h7) ?_;refine W ?_;refine bU (.agg [vb false,vu 0]) ?_;obtain ⟨x10,h9,hm⟩:=bnd hm;obtain ⟨l12,h11,hm⟩:=bnd hm;refine W ?_;have qh11:=lF h11;refine aS h11 ?_;exact E
instance:Ct prog 88 (K2 prog (vl aT) vu (t2 (vl aT) vi) 88 tB):=⟨fun hm=>aTc hm⟩
def bCu(rec1:ByteArray→Int→Int→Int→Option (Int))(b_0:ByteArray)(wA:Int)(n_7:Int)(i_8:Int):Option (Int):=
 (bif (decide (0≤i_8)) then
  ((aPh b_0 (IntKind.i64.wrap (wA+i_8))).bind fun b2=>
  rec1 b_0 wA (bor .u64 (shl .u64 n_7 8) (IntKind.u64.wrap b2)) (IntKind.i64.wrap (i_8-1)))
 else
  some n_7)
def aBo:Nat→ByteArray→Int→Int→Int→Option (Int)
 |0=>fun _ _ _ _=>none
 |n+1=>bCu (aBo n)
def eZ(b_0:ByteArray)(wA:Int)(aPn:Int):Option (Int):=
 aBo bC b_0 wA 0 (IntKind.i64.wrap (aPn-1))
theorem nU{b_0:ByteArray}{wA:Int}{aPn:Int}{r:Int}(hm:eZ b_0 wA aPn=some r):bO prog 91 [.v (.string b_0),vi wA,vi aPn] (vu r):=by
 refine bd 25 func91 ?_;refine W ?_;refine lp (fun m s=> ∃b_0 wA n_7 i_8,s=⟨25,(aE (aE (aE (aE fa 0 (.v (.string b_0))) 1 (vi wA)) 7 (vu n_7)) 8 (vi i_8)),⟨aZ,64⟩⟩∧aBo m b_0 wA n_7 i_8=some r) L ?_;rintro n1 s ⟨b_0,wA,n_7,i_8,rfl,hm⟩;refine W ?_;refine cm hm (fun hm=>?_) fun hm=>?_
 · obtain ⟨b2,h1,hm⟩:=bnd hm;exact L
 exact E
instance:Ct prog 91 (K3 prog vs vi vi vu 91 eZ):=⟨fun hm=>nU hm⟩
def sT(rec3:ByteArray→aC→aC→Int→Int→Int→Option (aC×Bool))(b_0:ByteArray)(t2:aC)(s_4:aC)(qS:Int)(t127:Int)(t128:Int):Option (aC×Bool):=
 (bif (decide (t128<t127)) then
  ((eZ b_0 qS 2).bind fun r22=>
  ((eZ b_0 (IntKind.i64.wrap (qS+2)) 2).bind fun r24=>
  ((aPh b_0 (IntKind.i64.wrap (qS+4))).bind fun b26=>
  ((app s_4.Graph.Edges [(aD.mk (IntKind.i64.wrap r22) (IntKind.i64.wrap r24) (IntKind.i64.wrap b26))]).bind fun l28=>
  rec3 b_0 (aC.mk (aF.mk t2.Graph.Config [] []) []) (aC.mk (aF.mk s_4.Graph.Config s_4.Graph.Hashes l28) s_4.Slots) (IntKind.i64.wrap (qS+5)) t127 (IntKind.i64.wrap (t128+1))))))
 else
  some ((aC.mk (aF.mk s_4.Graph.Config s_4.Graph.Hashes s_4.Graph.Edges) s_4.Slots),true))
def nX:Nat→ByteArray→aC→aC→Int→Int→Int→Option (aC×Bool)
 |0=>fun _ _ _ _ _ _=>none
 |n+1=>sT (nX n)
def sS(rec2:ByteArray→aC→aC→Int→Int→Int→Int→Option (aC×Bool))(b_0:ByteArray)(t2:aC)(s_4:aC)(mW:Int)(qS:Int)(t104:Int)(t105:Int):Option (aC×Bool):=
 (bif (decide (t105<t104)) then
  ((aPh b_0 qS).bind fun b16=>
  ((eZ b_0 (IntKind.i64.wrap (qS+1)) 8).bind fun r18=>
  ((app s_4.Slots [(aN.mk (b16==1) r18)]).bind fun l20=>
  rec2 b_0 (aC.mk (aF.mk t2.Graph.Config [] []) []) (aC.mk (aF.mk s_4.Graph.Config s_4.Graph.Hashes []) l20) mW (IntKind.i64.wrap (qS+9)) t104 (IntKind.i64.wrap (t105+1)))))
 else
  nX bC b_0 (aC.mk (aF.mk t2.Graph.Config [] []) []) (aC.mk (aF.mk s_4.Graph.Config s_4.Graph.Hashes []) s_4.Slots) (IntKind.i64.wrap (qS+4)) (IntKind.i64.wrap (Int.tdiv mW 5)) 0)
def nW:Nat→ByteArray→aC→aC→Int→Int→Int→Int→Option (aC×Bool)
 |0=>fun _ _ _ _ _ _ _=>none
 |n+1=>sS (nW n)
def sR(rec1:ByteArray→aC→aC→aU→Int→Int→Int→Int→Option (aC×Bool))(b_0:ByteArray)(t2:aC)(s_4:aC)(c_5:aU)(mW:Int)(qS:Int)(t82:Int)(t83:Int):Option (aC×Bool):=
 (bif (decide (t83<t82)) then
  ((eZ b_0 qS 8).bind fun r10=>
  ((eZ b_0 (IntKind.i64.wrap (qS+8)) 8).bind fun r12=>
  ((app s_4.Graph.Hashes [(bM.mk r10 r12)]).bind fun l14=>
  rec1 b_0 (aC.mk (aF.mk t2.Graph.Config [] []) []) (aC.mk (aF.mk s_4.Graph.Config l14 []) []) c_5 mW (IntKind.i64.wrap (qS+16)) t82 (IntKind.i64.wrap (t83+1)))))
 else
  nW bC b_0 (aC.mk (aF.mk t2.Graph.Config [] []) []) (aC.mk (aF.mk s_4.Graph.Config s_4.Graph.Hashes []) []) mW qS c_5.N 0)
def nV:Nat→ByteArray→aC→aC→aU→Int→Int→Int→Int→Option (aC×Bool)
 |0=>fun _ _ _ _ _ _ _ _=>none
 |n+1=>sR (nV n)
def lA(b_0:ByteArray):Option (aC×Bool):=
 (bif (decide ((b_0.size:Int)<10)) then
  some ((aC.mk (aF.mk (aU.mk 0 0 0) [] []) []),false)
 else
  ((eZ b_0 4 2).bind fun r2=>
  ((eZ b_0 6 2).bind fun r4=>
  ((eZ b_0 8 2).bind fun r6=>
  (bif (((decide (1024<(IntKind.i64.wrap r2)))||(decide (16<(IntKind.i64.wrap r4))))||(decide (8<(IntKind.i64.wrap r6)))) then
   some ((aC.mk (aF.mk (aU.mk 0 0 0) [] []) []),false)
  else
   (bif (decide ((b_0.size:Int)<(IntKind.i64.wrap ((IntKind.i64.wrap ((IntKind.i64.wrap ((IntKind.i64.wrap (10+(IntKind.i64.wrap ((IntKind.i64.wrap ((IntKind.i64.wrap r4)*(IntKind.i64.wrap r6)))*16))))+(IntKind.i64.wrap ((IntKind.i64.wrap r2)*9))))+4))+8)))) then
    some ((aC.mk (aF.mk (aU.mk 0 0 0) [] []) []),false)
   else
    ((fX (((Int.tmod (IntKind.i64.wrap ((IntKind.i64.wrap ((b_0.size:Int)-(IntKind.i64.wrap ((IntKind.i64.wrap ((IntKind.i64.wrap (10+(IntKind.i64.wrap ((IntKind.i64.wrap ((IntKind.i64.wrap r4)*(IntKind.i64.wrap r6)))*16))))+(IntKind.i64.wrap ((IntKind.i64.wrap r2)*9))))+4))))-8)) 5) !=0)==false) 0 (eZ b_0 (IntKind.i64.wrap ((IntKind.i64.wrap ((IntKind.i64.wrap ((IntKind.i64.wrap (10+(IntKind.i64.wrap ((IntKind.i64.wrap ((IntKind.i64.wrap r4)*(IntKind.i64.wrap r6)))*16))))+(IntKind.i64.wrap ((IntKind.i64.wrap r2)*9))))+4))-4)) 4)).bind fun r8=>
    (bif (((Int.tmod (IntKind.i64.wrap ((IntKind.i64.wrap ((b_0.size:Int)-(IntKind.i64.wrap ((IntKind.i64.wrap ((IntKind.i64.wrap (10+(IntKind.i64.wrap ((IntKind.i64.wrap ((IntKind.i64.wrap r4)*(IntKind.i64.wrap r6)))*16))))+(IntKind.i64.wrap ((IntKind.i64.wrap r2)*9))))+4))))-8)) 5) !=0)||(r8 !=(IntKind.u64.wrap (IntKind.i64.wrap (Int.tdiv (IntKind.i64.wrap ((IntKind.i64.wrap ((b_0.size:Int)-(IntKind.i64.wrap ((IntKind.i64.wrap ((IntKind.i64.wrap (10+(IntKind.i64.wrap ((IntKind.i64.wrap ((IntKind.i64.wrap r4)*(IntKind.i64.wrap r6)))*16))))+(IntKind.i64.wrap ((IntKind.i64.wrap r2)*9))))+4))))-8)) 5))))) then
     some ((aC.mk (aF.mk (aU.mk 0 0 0) [] []) []),false)
    else
     nV bC b_0 (aC.mk (aF.mk (aU.mk 0 0 0) [] []) []) (aC.mk (aF.mk (aU.mk (IntKind.i64.wrap r2) (IntKind.i64.wrap r4) (IntKind.i64.wrap r6)) [] []) []) (aU.mk (IntKind.i64.wrap r2) (IntKind.i64.wrap r4) (IntKind.i64.wrap r6)) (IntKind.i64.wrap ((IntKind.i64.wrap ((b_0.size:Int)-(IntKind.i64.wrap ((IntKind.i64.wrap ((IntKind.i64.wrap (10+(IntKind.i64.wrap ((IntKind.i64.wrap ((IntKind.i64.wrap r4)*(IntKind.i64.wrap r6)))*16))))+(IntKind.i64.wrap ((IntKind.i64.wrap r2)*9))))+4))))-8)) 10 (IntKind.i64.wrap ((IntKind.i64.wrap r4)*(IntKind.i64.wrap r6))) 0))))))))
theorem aM3{b_0:ByteArray}{r:aC×Bool}(hm:lA b_0=some r):bO prog 44 [.v (.string b_0)] (.tup [.agg [.v (.int .i64 r.1.Graph.Config.N),.v (.int .i64 r.1.Graph.Config.L),.v (.int .i64 r.1.Graph.Config.R),.sl (r.1.Graph.Hashes.flatMap bI) r.1.Graph.Hashes.length false,.sl (r.1.Graph.Edges.flatMap aO) r.1.Graph.Edges.length false,.sl (r.1.Slots.flatMap aT) r.1.Slots.length false],.v (.bool r.2)]):=by
 refine bO.of_body func44 rfl ?_;simp only [ntmps44,List.length_cons,List.length_nil,Nat.reduceAdd,Nat.reduceSub,gD];unfold lA at hm;refine sr (N':=64) rfl ?_;refine hp (id:=0) rfl rfl (mN bTk Z5) ?_;refine pA ?_;refine fs ?_;refine sr (N':=128) rfl ?_;refine hp (id:=64) rfl rfl (mN bTk Z5) ?_;refine fs ?_;refine AWp.seq' ?_;refine sr (N':=192) rfl ?_
 iterate 3 refine pA ?_
 refine fs ?_;refine AWp.condM hm Z1 (fun _ hm=>?_) (fun _ hm=>?_)
 · refine sr (N':=256) rfl ?_;refine pu rfl (gQ Z1 Z3 Z2) ?_;refine aW.heap0 (id:=193) rfl (rP (ys:=[.v (.int .i64 0),.v (.int .i64 0),.v (.int .i64 0),.v (.slice none 0 0),.v (.slice none 0 0),.v (.slice none 0 0)]) bIj Z1 Z1 Z3 rfl (Nat.le_of_ble_eq_true rfl) Z9 rfl) ?_;refine pA ?_;refine fs ?_;refine AWp.ret ?_;refine hZ ?_;cases hm;exact bCq (.inr rfl) (by rw [Tryz.results44]) (.cell (aEf Z1 Z3 Z2) (.tmp Z1 .nil)) rfl (tdt (.cons (tda rfl (.cons (.data _ (.v _)) (.cons (.data _ (.v _)) (.cons (.data _ (.v _)) (.cons (.nil false) (.cons (.nil false) (.cons (.nil false) .nil))))))) (.cons (td rfl (.v _)) .nil)))
 ·
  refine AWp.skip ?_;refine bJ ?_;refine sr (N':=256) rfl ?_;refine pA ?_;obtain ⟨r2,h1,hm⟩:=bnd hm;refine aW.callQ (r:= .v (.int .u64 r2)) Zd Z1 aVd (fun H=>(cV (cV (cV .nil)))) (nU h1) ?_
  iterate 2 refine pA ?_
  obtain ⟨r4,h3,hm⟩:=bnd hm;refine aW.callQ (r:= .v (.int .u64 r4)) Zd Z1 aVd (fun H=>(cV (cV (cV .nil)))) (nU h3) ?_
  iterate 2 refine pA ?_
  obtain ⟨r6,h5,hm⟩:=bnd hm;refine aW.callQ (r:= .v (.int .u64 r6)) Zd Z1 aVd (fun H=>(cV (cV (cV .nil)))) (nU h5) ?_;refine pA ?_;refine pu rfl (by simp only [go_sem,Nat.reduceBEq];exact (by kernel_rfl:wG prog 23 [(0,.v (.int .i64 (IntKind.i64.wrap r2))),(1,.v (.int .i64 (IntKind.i64.wrap r4))),(2,.v (.int .i64 (IntKind.i64.wrap r6)))]=some (.agg [.v (.int .i64 (IntKind.i64.wrap r2)),.v (.int .i64 (IntKind.i64.wrap r4)),.v (.int .i64 (IntKind.i64.wrap r6))]))) ?_;refine hp (id:=202) rfl rfl (mN cBi Z5) ?_;refine aW.heap0 (id:=203) rfl (rP (ys:=[.v (.int .i64 (IntKind.i64.wrap r2)),.v (.int .i64 (IntKind.i64.wrap r4)),.v (.int .i64 (IntKind.i64.wrap r6))]) bT4 Z1 Z1 Z3 rfl (Nat.le_of_ble_eq_true rfl) Z9 rfl) ?_;refine fs ?_;refine AWp.seq' ?_;refine sr (N':=320) rfl ?_;refine pA ?_;refine pu rfl (gQ Z1 Z3 Z4) ?_
  iterate 3 first|refine pA ?_|refine pB ?_
  refine pg rfl rfl Z2 (fun hb=>(gQ (Zh hb) Z3 Z4)) ?_
  iterate 4 first|refine pA ?_|refine pB ?_
  refine pg rfl rfl Z2 (fun hb=>(gQ (Zh hb) Z3 Z4)) ?_
  iterate 2 first|refine pA ?_|refine pB ?_
  refine fs ?_;refine AWp.condM hm Z1 (fun _ hm=>?_) (fun _ hm=>?_)
  · refine sr (N':=384) rfl ?_;refine pu rfl (gQ Z1 Z3 Z2) ?_;refine aW.heap0 (id:=321) rfl (rP (ys:=[.v (.int .i64 0),.v (.int .i64 0),.v (.int .i64 0),.v (.slice none 0 0),.v (.slice none 0 0),.v (.slice none 0 0)]) bIj Z1 Z1 Z3 rfl (Nat.le_of_ble_eq_true rfl) Z9 rfl) ?_;refine pA ?_;refine fs ?_;refine AWp.ret ?_;refine hZ ?_;cases hm;exact bCq (.inr rfl) (by rw [Tryz.results44]) (.cell (aEf Z1 Z3 Z2) (.tmp Z1 .nil)) rfl (tdt (.cons (tda rfl (.cons (.data _ (.v _)) (.cons (.data _ (.v _)) (.cons (.data _ (.v _)) (.cons (.nil false) (.cons (.nil false) (.cons (.nil false) .nil))))))) (.cons (td rfl (.v _)) .nil)))
  ·
   refine AWp.skip ?_;refine bJ ?_;refine sr (N':=384) rfl ?_;refine pA ?_;refine pu rfl (gQ Z1 Z3 Z4) ?_;refine pA ?_;refine pu rfl (gQ Z1 Z3 Z4) ?_
   iterate 4 refine pA ?_
   refine pu rfl (gQ Z1 Z3 Z4) ?_
   iterate 4 refine pA ?_
   refine fs ?_;refine AWp.seq' ?_;refine sr (N':=448) rfl ?_
   iterate 5 refine pA ?_
   refine fs ?_;refine AWp.condM hm Z1 (fun _ hm=>?_) (fun _ hm=>?_)
   · refine sr (N':=512) rfl ?_;refine pu rfl (gQ Z1 Z3 Z2) ?_;refine aW.heap0 (id:=449) rfl (rP (ys:=[.v (.int .i64 0),.v (.int .i64 0),.v (.int .i64 0),.v (.slice none 0 0),.v (.slice none 0 0),.v (.slice none 0 0)]) bIj Z1 Z1 Z3 rfl (Nat.le_of_ble_eq_true rfl) Z9 rfl) ?_;refine pA ?_;refine fs ?_;refine AWp.ret ?_;refine hZ ?_;cases hm;exact bCq (.inr rfl) (by rw [Tryz.results44]) (.cell (aEf Z1 Z3 Z2) (.tmp Z1 .nil)) rfl (tdt (.cons (tda rfl (.cons (.data _ (.v _)) (.cons (.data _ (.v _)) (.cons (.data _ (.v _)) (.cons (.nil false) (.cons (.nil false) (.cons (.nil false) .nil))))))) (.cons (td rfl (.v _)) .nil)))
   ·
    refine AWp.skip ?_;refine bJ ?_;refine sr (N':=512) rfl ?_
    iterate 6 refine pA ?_
    refine fs ?_;refine AWp.seq' ?_;refine sr (N':=576) rfl ?_
    iterate 7 (first|refine pu rfl Zj ?_|refine pg rfl rfl Zj (by intro hb;simp only [go_sem,Nat.reduceBEq,Int.reduceEq,Int.reduceLE,hb,Bool.true_and];try with_reducible rfl) ?_)
    obtain ⟨r8,h7,hm⟩:=bnd hm;refine aW.callQG (r:= .v (.int .u64 r8)) Zd rfl Z2 Z1 aVd (fun hb H=>(.cons (td (Zh hb) (.v _)) (.cons (td (Zh hb) (.v _)) (.cons (td (Zh hb) (.v _)) .nil)))) (fun hb=>nU (gN h7 hb)) ?_
    iterate 5 (first|refine pu rfl Zj ?_|refine pg rfl rfl Zj (by intro hb;simp only [go_sem,Nat.reduceBEq,Int.reduceEq,Int.reduceLE,hb,Bool.true_and];try with_reducible rfl) ?_)
    refine fs ?_;refine AWp.condM hm Z1 (fun _ hm=>?_) (fun _ hm=>?_)
    · refine sr (N':=640) rfl ?_;refine pu rfl (gQ Z1 Z3 Z2) ?_;refine aW.heap0 (id:=577) rfl (rP (ys:=[.v (.int .i64 0),.v (.int .i64 0),.v (.int .i64 0),.v (.slice none 0 0),.v (.slice none 0 0),.v (.slice none 0 0)]) bIj Z1 Z1 Z3 rfl (Nat.le_of_ble_eq_true rfl) Z9 rfl) ?_;refine pA ?_;refine fs ?_;refine AWp.ret ?_;refine hZ ?_;cases hm;exact bCq (.inr rfl) (by rw [Tryz.results44]) (.cell (aEf Z1 Z3 Z2) (.tmp Z1 .nil)) rfl (tdt (.cons (tda rfl (.cons (.data _ (.v _)) (.cons (.data _ (.v _)) (.cons (.data _ (.v _)) (.cons (.nil false) (.cons (.nil false) (.cons (.nil false) .nil))))))) (.cons (td rfl (.v _)) .nil)))
    ·
     refine AWp.skip ?_;refine bJ ?_;refine sr (N':=640) rfl ?_;refine pu rfl (gQ Z1 Z3 Z2) ?_
     iterate 2 refine pA ?_
     refine aW.heap0 (id:=579) rfl (rP (ys:=[.v (.int .i64 (IntKind.i64.wrap r2)),.v (.int .i64 (IntKind.i64.wrap r4)),.v (.int .i64 (IntKind.i64.wrap r6)),.v (.slice none 0 0),.v (.slice none 0 0),.v (.slice none 0 0)]) bT4 Z1 Z1 Z3 rfl (Nat.le_of_ble_eq_true rfl) Z9 rfl) ?_;refine fs ?_;refine sr (N':=704) rfl ?_;refine pA ?_;refine fs ?_;refine AWp.seq' ?_;refine sr (N':=768) rfl ?_;refine pA ?_;refine pu rfl (gQ Z1 Z3 Z4) ?_;refine pA ?_;refine pu rfl (gQ Z1 Z3 Z4) ?_
     iterate 2 refine pA ?_
     refine fs ?_;refine AWp.block ?_;refine AWp.loopM (fun m s=> ∃(b_0:ByteArray) (t2:aC) (s_4:aC) (c_5:aU) (mW:Int) (qS:Int) (t82:Int) (t83:Int),s=(⟨157,(aE (aE (aE (aE (aE (aE (aE (aE (fun _=>AV.any) 0 (.v (.string b_0))) 2 (.adr 1 0)) 4 (.adr 2 0)) 5 (.adr 4 0)) 7 (.v (.int .i64 mW))) 8 (.v (.int .i64 qS))) 82 (.v (.int .i64 t82))) 83 (.v (.int .i64 t83))),⟨(upd (upd (upd (upd aZ 1 (.cells 1 [.v (.int .i64 t2.Graph.Config.N),.v (.int .i64 t2.Graph.Config.L),.v (.int .i64 t2.Graph.Config.R),.v (.slice none 0 0),.v (.slice none 0 0),.v (.slice none 0 0)] 0)) 2 (.cells 1 [.v (.int .i64 s_4.Graph.Config.N),.v (.int .i64 s_4.Graph.Config.L),.v (.int .i64 s_4.Graph.Config.R),.own 3 0 s_4.Graph.Hashes.length,.v (.slice none 0 0),.v (.slice none 0 0)] 0)) 3 (.cells 2 (s_4.Graph.Hashes.flatMap bI) 0)) 4 (.cells 1 [.v (.int .i64 c_5.N),.v (.int .i64 c_5.L),.v (.int .i64 c_5.R)] 0)),64⟩⟩:St)∧nV m b_0 t2 s_4 c_5 mW qS t82 t83=some r) bC ?_ ?_ ?_
     · rintro s ⟨_,_,_,_,_,_,_,_,_,h⟩;cases h
     · refine ⟨_,?_,b_0,(aC.mk (aF.mk (aU.mk 0 0 0) [] []) []),(aC.mk (aF.mk (aU.mk (IntKind.i64.wrap r2) (IntKind.i64.wrap r4) (IntKind.i64.wrap r6)) [] []) []),(aU.mk (IntKind.i64.wrap r2) (IntKind.i64.wrap r4) (IntKind.i64.wrap r6)),(IntKind.i64.wrap ((IntKind.i64.wrap ((b_0.size:Int)-(IntKind.i64.wrap ((IntKind.i64.wrap ((IntKind.i64.wrap (10+(IntKind.i64.wrap ((IntKind.i64.wrap ((IntKind.i64.wrap r4)*(IntKind.i64.wrap r6)))*16))))+(IntKind.i64.wrap ((IntKind.i64.wrap r2)*9))))+4))))-8)),10,(IntKind.i64.wrap ((IntKind.i64.wrap r4)*(IntKind.i64.wrap r6))),0,rfl,hm⟩;refine St.Le.trans (aVv 64 3 910400 2 (ys:=[.v (.int .i64 (IntKind.i64.wrap r2)),.v (.int .i64 (IntKind.i64.wrap r4)),.v (.int .i64 (IntKind.i64.wrap r6)),.own 910400 0 0,.v (.slice none 0 0),.v (.slice none 0 0)]) Z3 (by rfl) Z5 (by rfl)) ?_;exact cC (fun j=>bif j==1 then 0 else bif j==2 then 64 else bif j==3 then 910400 else bif j==4 then 202 else 0) (wV (wV (wV (wV (bH _ _ (iS Z1 rfl Z7) (bH _ _ (iS Z1 rfl Z7) (bH _ _ (iS Z1 rfl Z7) (wV cY)))))))) (eX _ (bX (mO Z3 (Nat.le_refl _) (Nat.zero_le _) (aMi.dat (aU.mk (IntKind.i64.wrap r2) (IntKind.i64.wrap r4) (IntKind.i64.wrap r6)))) (eU iD (bX (iB Z3 rfl (.cons (.data _ (.v _)) (.cons (.data _ (.v _)) (.cons (.data _ (.v _)) (.cons (rO (by first|rfl|omega|(dsimp only;omega)) rfl Z7) (.cons (.data _ (.v _)) (.cons (.data _ (.v _)) .nil))))))) (bX (iB Z3 rfl (.cons (.data _ (.v _)) (.cons (.data _ (.v _)) (.cons (.data _ (.v _)) (.cons (.data _ (.v _)) (.cons (.data _ (.v _)) (.cons (.data _ (.v _)) .nil))))))) cM)))) Z8)
     ·
      rintro n1 s ⟨b_0,t2,s_4,c_5,mW,qS,t82,t83,rfl,hm⟩;replace hm:sR (nV n1) b_0 t2 s_4 c_5 mW qS t82 t83=some r:=hm;unfold sR at hm;refine sr (N':=128) rfl ?_;refine pA ?_;refine fs ?_;refine AWp.seq' ?_;refine AWp.condM hm Z1 (fun _ hm=>?_) (fun _ hm=>?_)
      ·
       refine AWp.skip ?_;refine bJ ?_;refine AWp.seq' ?_;refine AWp.block ?_;refine sd mix (by kernel_rfl) (N':=192) rfl ?_
       iterate 2 refine pA ?_
       refine pu rfl (gQ Z1 Z3 Z4) ?_
       iterate 2 refine pA ?_
       obtain ⟨r10,h9,hm⟩:=bnd hm;refine aW.callQ (r:= .v (.int .u64 r10)) Zd Z1 aVd (fun H=>(cV (cV (cV .nil)))) (nU h9) ?_
       iterate 3 refine pA ?_
       obtain ⟨r12,h11,hm⟩:=bnd hm;refine aW.callQ (r:= .v (.int .u64 r12)) Zd Z1 aVd (fun H=>(cV (cV (cV .nil)))) (nU h11) ?_;refine pu rfl (by simp only [go_sem,Nat.reduceBEq];exact (by kernel_rfl:wG prog 94 [(0,.v (.int .u64 r10)),(1,.v (.int .u64 r12))]=some (.agg [.v (.int .u64 r10),.v (.int .u64 r12)]))) ?_;refine hp (id:=139) rfl rfl (iT iD (l:=[(bM.mk r10 r12)]) underlying27 bM6 bMk Z5 Zd Zd Zd (by simp only [go_sem,Nat.reduceBEq];try rfl) (by kernel_rfl)) ?_;obtain ⟨l14,h13,hm⟩:=bnd hm;refine hp (id:=140) rfl rfl (tH iD underlying27 underlying27 rfl bNv bQa (by rw [aZs];decide) (by rw [aZs];decide) bQc Zd Zd Z1 Z3 Z6 (wI iD Z1 Z3 Z6) rfl Z5 h13) ?_
       iterate 2 refine pA ?_
       refine aW.heap0 (id:=143) rfl (rP (ys:=[.v (.int .i64 s_4.Graph.Config.N),.v (.int .i64 s_4.Graph.Config.L),.v (.int .i64 s_4.Graph.Config.R),.own 140 0 l14.length,.v (.slice none 0 0),.v (.slice none 0 0)]) cA4 Z1 Z1 Z3 rfl (Nat.le_of_ble_eq_true rfl) Z9 rfl) ?_;refine fs ?_;refine AWp.reg 64 (N':=256) rfl ?_
       iterate 3 refine pA ?_
       refine aW.fin ?_;refine gZ ?_;refine bJ ?_;refine AWp.reg 64 (N':=320) rfl ?_
       iterate 2 refine pA ?_
       refine aW.fin ?_;refine fR ?_;refine ⟨_,?_,b_0,(aC.mk (aF.mk t2.Graph.Config [] []) []),(aC.mk (aF.mk s_4.Graph.Config l14 []) []),c_5,mW,(IntKind.i64.wrap (qS+16)),t82,(IntKind.i64.wrap (t83+1)),rfl,hm⟩;exact cC (fun j=>bif j==1 then 1 else bif j==2 then 2 else bif j==3 then 140 else bif j==4 then 4 else 0) (wV (wV (wV (wV (bH _ _ (iS Z1 rfl Z7) (bH _ _ (iS Z1 rfl Z7) (bH _ _ (iS Z1 rfl Z7) (wV cY)))))))) (eX _ (bX (mO Z3 (Nat.le_refl _) (Nat.zero_le _) (aMi.dat c_5)) (eU iD (bX (iB Z3 rfl (.cons (.data _ (.v _)) (.cons (.data _ (.v _)) (.cons (.data _ (.v _)) (.cons (rO (by first|rfl|omega|(dsimp only;omega)) rfl Z7) (.cons (.data _ (.v _)) (.cons (.data _ (.v _)) .nil))))))) (bX (iB Z3 rfl (.cons (.data _ (.v _)) (.cons (.data _ (.v _)) (.cons (.data _ (.v _)) (.cons (.data _ (.v _)) (.cons (.data _ (.v _)) (.cons (.data _ (.v _)) .nil))))))) cM)))) Z8)
      ·
       refine AWp.exit ?_;refine iE ?_;refine gG ?_;refine gF ?_;refine bJ ?_;refine AWp.seq' ?_;refine sr (N':=192) rfl ?_;refine pA ?_;refine pu rfl (gQ Z1 Z3 Z4) ?_;refine pA ?_;refine fs ?_;refine AWp.block ?_;refine AWp.loopM (fun m s=> ∃(b_0:ByteArray) (t2:aC) (s_4:aC) (mW:Int) (qS:Int) (t104:Int) (t105:Int),s=(⟨157,(aE (aE (aE (aE (aE (aE (aE (fun _=>AV.any) 0 (.v (.string b_0))) 2 (.adr 1 0)) 4 (.adr 2 0)) 7 (.v (.int .i64 mW))) 8 (.v (.int .i64 qS))) 104 (.v (.int .i64 t104))) 105 (.v (.int .i64 t105))),⟨(upd (upd (upd (upd aZ 1 (.cells 1 [.v (.int .i64 t2.Graph.Config.N),.v (.int .i64 t2.Graph.Config.L),.v (.int .i64 t2.Graph.Config.R),.v (.slice none 0 0),.v (.slice none 0 0),.v (.slice none 0 0)] 0)) 2 (.cells 1 [.v (.int .i64 s_4.Graph.Config.N),.v (.int .i64 s_4.Graph.Config.L),.v (.int .i64 s_4.Graph.Config.R),.own 3 0 s_4.Graph.Hashes.length,.v (.slice none 0 0),.own 4 0 s_4.Slots.length] 0)) 3 (.cells 2 (s_4.Graph.Hashes.flatMap bI) 0)) 4 (.cells 2 (s_4.Slots.flatMap aT) 0)),64⟩⟩:St)∧nW m b_0 t2 s_4 mW qS t104 t105=some r) bC ?_ ?_ ?_
       · rintro s ⟨_,_,_,_,_,_,_,_,h⟩;cases h
       · refine ⟨_,?_,b_0,(aC.mk (aF.mk t2.Graph.Config [] []) []),(aC.mk (aF.mk s_4.Graph.Config s_4.Graph.Hashes []) []),mW,qS,c_5.N,0,rfl,hm⟩;refine St.Le.trans (aVv 2 5 910401 2 (ys:=[.v (.int .i64 s_4.Graph.Config.N),.v (.int .i64 s_4.Graph.Config.L),.v (.int .i64 s_4.Graph.Config.R),.own 3 0 s_4.Graph.Hashes.length,.v (.slice none 0 0),.own 910401 0 0]) Z3 (by rfl) Z5 (by rfl)) ?_;exact cC (fun j=>bif j==1 then 1 else bif j==2 then 2 else bif j==3 then 3 else bif j==4 then 910401 else 0) (wV (wV (wV (wV (bH _ _ (iS Z1 rfl Z7) (bH _ _ (iS Z1 rfl Z7) (wV cY))))))) (eX _ (eU cH (eU iD (bX (iB Z3 rfl (.cons (.data _ (.v _)) (.cons (.data _ (.v _)) (.cons (.data _ (.v _)) (.cons (rO (by first|rfl|omega|(dsimp only;omega)) rfl Z7) (.cons (.data _ (.v _)) (.cons (rO (by first|rfl|omega|(dsimp only;omega)) rfl Z7) .nil))))))) (bX (iB Z3 rfl (.cons (.data _ (.v _)) (.cons (.data _ (.v _)) (.cons (.data _ (.v _)) (.cons (.data _ (.v _)) (.cons (.data _ (.v _)) (.cons (.data _ (.v _)) .nil))))))) cM)))) Z8)
       ·
        rintro n2 s ⟨b_0,t2,s_4,mW,qS,t104,t105,rfl,hm⟩;replace hm:sS (nW n2) b_0 t2 s_4 mW qS t104 t105=some r:=hm;unfold sS at hm;refine sr (N':=128) rfl ?_;refine pA ?_;refine fs ?_;refine AWp.seq' ?_;refine AWp.condM hm Z1 (fun _ hm=>?_) (fun _ hm=>?_)
        ·
         refine AWp.skip ?_;refine bJ ?_;refine AWp.seq' ?_;refine AWp.block ?_;refine sd mix (by kernel_rfl) (N':=192) rfl ?_;refine pA ?_;refine pu rfl (gQ Z1 Z3 Z4) ?_
         iterate 2 refine pA ?_
         obtain ⟨b16,h15,hm⟩:=bnd hm;refine pu rfl (aPk underlying9 Z1 Z1 h15) ?_
         iterate 4 refine pA ?_
         obtain ⟨r18,h17,hm⟩:=bnd hm;refine aW.callQ (r:= .v (.int .u64 r18)) Zd Z1 aVd (fun H=>(cV (cV (cV .nil)))) (nU h17) ?_;refine pu rfl (by simp only [go_sem,Nat.reduceBEq];exact (by kernel_rfl:wG prog 96 [(0,.v (.bool (b16==1))),(1,.v (.int .u64 r18))]=some (.agg [.v (.bool (b16==1)),.v (.int .u64 r18)]))) ?_;refine hp (id:=139) rfl rfl (iT cH (l:=[(aN.mk (b16==1) r18)]) underlying31 bM7 bMl Z5 Zd Zd Zd (by simp only [go_sem,Nat.reduceBEq];try rfl) (by kernel_rfl)) ?_;obtain ⟨l20,h19,hm⟩:=bnd hm;refine hp (id:=140) rfl rfl (tH cH underlying31 underlying31 rfl bNw bQb (by rw [aZt];decide) (by rw [aZt];decide) bQd Zd Zd Z1 Z3 Z6 (wI cH Z1 Z3 Z6) rfl Z5 h19) ?_;refine pA ?_;refine aW.heap0 (id:=142) rfl (rP (ys:=[.v (.int .i64 s_4.Graph.Config.N),.v (.int .i64 s_4.Graph.Config.L),.v (.int .i64 s_4.Graph.Config.R),.own 3 0 s_4.Graph.Hashes.length,.v (.slice none 0 0),.own 140 0 l20.length]) cAl Z1 Z1 Z3 rfl (Nat.le_of_ble_eq_true rfl) Z9 rfl) ?_;refine fs ?_;refine AWp.reg 64 (N':=256) rfl ?_
         iterate 3 refine pA ?_
         refine aW.fin ?_;refine gZ ?_;refine bJ ?_;refine AWp.reg 64 (N':=320) rfl ?_
         iterate 2 refine pA ?_
         refine aW.fin ?_;refine fR ?_;refine ⟨_,?_,b_0,(aC.mk (aF.mk t2.Graph.Config [] []) []),(aC.mk (aF.mk s_4.Graph.Config s_4.Graph.Hashes []) l20),mW,(IntKind.i64.wrap (qS+9)),t104,(IntKind.i64.wrap (t105+1)),rfl,hm⟩;exact cC (fun j=>bif j==1 then 1 else bif j==2 then 2 else bif j==3 then 3 else bif j==4 then 140 else 0) (wV (wV (wV (wV (bH _ _ (iS Z1 rfl Z7) (bH _ _ (iS Z1 rfl Z7) (wV cY))))))) (eX _ (eU cH (eU iD (bX (iB Z3 rfl (.cons (.data _ (.v _)) (.cons (.data _ (.v _)) (.cons (.data _ (.v _)) (.cons (rO (by first|rfl|omega|(dsimp only;omega)) rfl Z7) (.cons (.data _ (.v _)) (.cons (rO (by first|rfl|omega|(dsimp only;omega)) rfl Z7) .nil))))))) (bX (iB Z3 rfl (.cons (.data _ (.v _)) (.cons (.data _ (.v _)) (.cons (.data _ (.v _)) (.cons (.data _ (.v _)) (.cons (.data _ (.v _)) (.cons (.data _ (.v _)) .nil))))))) cM)))) Z8)
        ·
         refine AWp.exit ?_;refine iE ?_;refine gG ?_;refine gF ?_;refine bJ ?_;refine sr (N':=192) rfl ?_
         iterate 3 refine pA ?_
         refine fs ?_;refine AWp.seq' ?_;refine sr (N':=256) rfl ?_
         iterate 3 refine pu rfl Zj ?_
         refine fs ?_;refine AWp.block ?_;refine AWp.loopM (fun m s=> ∃(b_0:ByteArray) (t2:aC) (s_4:aC) (qS:Int) (t127:Int) (t128:Int),s=(⟨157,(aE (aE (aE (aE (aE (aE (fun _=>AV.any) 0 (.v (.string b_0))) 2 (.adr 1 0)) 4 (.adr 2 0)) 8 (.v (.int .i64 qS))) 127 (.v (.int .i64 t127))) 128 (.v (.int .i64 t128))),⟨(upd (upd (upd (upd (upd aZ 1 (.cells 1 [.v (.int .i64 t2.Graph.Config.N),.v (.int .i64 t2.Graph.Config.L),.v (.int .i64 t2.Graph.Config.R),.v (.slice none 0 0),.v (.slice none 0 0),.v (.slice none 0 0)] 0)) 2 (.cells 1 [.v (.int .i64 s_4.Graph.Config.N),.v (.int .i64 s_4.Graph.Config.L),.v (.int .i64 s_4.Graph.Config.R),.own 3 0 s_4.Graph.Hashes.length,.own 4 0 s_4.Graph.Edges.length,.own 5 0 s_4.Slots.length] 0)) 3 (.cells 2 (s_4.Graph.Hashes.flatMap bI) 0)) 4 (.cells 3 (s_4.Graph.Edges.flatMap aO) 0)) 5 (.cells 2 (s_4.Slots.flatMap aT) 0)),64⟩⟩:St)∧nX m b_0 t2 s_4 qS t127 t128=some r) bC ?_ ?_ ?_
         · rintro s ⟨_,_,_,_,_,_,_,h⟩;cases h
         · refine ⟨_,?_,b_0,(aC.mk (aF.mk t2.Graph.Config [] []) []),(aC.mk (aF.mk s_4.Graph.Config s_4.Graph.Hashes []) s_4.Slots),(IntKind.i64.wrap (qS+4)),(IntKind.i64.wrap (Int.tdiv mW 5)),0,rfl,hm⟩;refine St.Le.trans (aVv 2 4 910401 3 (ys:=[.v (.int .i64 s_4.Graph.Config.N),.v (.int .i64 s_4.Graph.Config.L),.v (.int .i64 s_4.Graph.Config.R),.own 3 0 s_4.Graph.Hashes.length,.own 910401 0 0,.own 4 0 s_4.Slots.length]) Z3 (by rfl) Z5 (by rfl)) ?_;exact cC (fun j=>bif j==1 then 1 else bif j==2 then 2 else bif j==3 then 3 else bif j==4 then 910401 else bif j==5 then 4 else 0) (wV (wV (wV (bH _ _ (iS Z1 rfl Z7) (bH _ _ (iS Z1 rfl Z7) (wV cY)))))) (eX _ (eU cH (eU bT (eU iD (bX (iB Z3 rfl (.cons (.data _ (.v _)) (.cons (.data _ (.v _)) (.cons (.data _ (.v _)) (.cons (rO (by first|rfl|omega|(dsimp only;omega)) rfl Z7) (.cons (rO (by first|rfl|omega|(dsimp only;omega)) rfl Z7) (.cons (rO (by first|rfl|omega|(dsimp only;omega)) rfl Z7) .nil))))))) (bX (iB Z3 rfl (.cons (.data _ (.v _)) (.cons (.data _ (.v _)) (.cons (.data _ (.v _)) (.cons (.data _ (.v _)) (.cons (.data _ (.v _)) (.cons (.data _ (.v _)) .nil))))))) cM))))) Z8)
         ·
          rintro n3 s ⟨b_0,t2,s_4,qS,t127,t128,rfl,hm⟩;replace hm:sT (nX n3) b_0 t2 s_4 qS t127 t128=some r:=hm;unfold sT at hm;refine sr (N':=128) rfl ?_;refine pA ?_;refine fs ?_;refine AWp.seq' ?_;refine AWp.condM hm Z1 (fun _ hm=>?_) (fun _ hm=>?_)
          ·
           refine AWp.skip ?_;refine bJ ?_;refine AWp.seq' ?_;refine AWp.block ?_;refine sd mix (by kernel_rfl) (N':=192) rfl ?_
           iterate 2 refine pA ?_
           obtain ⟨r22,h21,hm⟩:=bnd hm;refine aW.callQ (r:= .v (.int .u64 r22)) Zd Z1 aVd (fun H=>(cV (cV (cV .nil)))) (nU h21) ?_
           iterate 4 refine pA ?_
           obtain ⟨r24,h23,hm⟩:=bnd hm;refine aW.callQ (r:= .v (.int .u64 r24)) Zd Z1 aVd (fun H=>(cV (cV (cV .nil)))) (nU h23) ?_
           iterate 4 refine pA ?_
           obtain ⟨b26,h25,hm⟩:=bnd hm;refine pu rfl (aPk underlying9 Z1 Z1 h25) ?_;refine pA ?_;refine pu rfl (by simp only [go_sem,Nat.reduceBEq];exact (by kernel_rfl:wG prog 61 [(0,.v (.int .i64 (IntKind.i64.wrap r22))),(1,.v (.int .i64 (IntKind.i64.wrap r24))),(2,.v (.int .i64 (IntKind.i64.wrap b26)))]=some (.agg [.v (.int .i64 (IntKind.i64.wrap r22)),.v (.int .i64 (IntKind.i64.wrap r24)),.v (.int .i64 (IntKind.i64.wrap b26))]))) ?_;refine hp (id:=143) rfl rfl (mN aXd Z5) ?_;refine aW.heap0 (id:=144) rfl (rP (ys:=[.v (.int .i64 (IntKind.i64.wrap r22)),.v (.int .i64 (IntKind.i64.wrap r24)),.v (.int .i64 (IntKind.i64.wrap b26))]) aM7 Z1 Z1 Z3 rfl (Nat.le_of_ble_eq_true rfl) Z9 rfl) ?_;refine fs ?_;refine sr (N':=256) rfl ?_
           iterate 2 refine pA ?_
           refine pu rfl (gQ Z1 Z3 Z4) ?_;refine pu rfl (gQ Z1 Z3 Z2) ?_;refine hp (id:=196) rfl rfl (iT bT (l:=[(aD.mk (IntKind.i64.wrap r22) (IntKind.i64.wrap r24) (IntKind.i64.wrap b26))]) underlying28 aM7 aXd Z5 Zd Zd Zd (by simp only [go_sem,Nat.reduceBEq];try rfl) (by kernel_rfl)) ?_;obtain ⟨l28,h27,hm⟩:=bnd hm;refine hp (id:=197) rfl rfl (tH bT underlying28 underlying28 rfl bKs bMe (by rw [aT7];decide) (by rw [aT7];decide) bMf Zd Zd Z1 Z3 Z6 (wI bT Z1 Z3 Z6) rfl Z5 h27) ?_
           iterate 2 refine pA ?_
           refine aW.heap0 (id:=200) rfl (rP (ys:=[.v (.int .i64 s_4.Graph.Config.N),.v (.int .i64 s_4.Graph.Config.L),.v (.int .i64 s_4.Graph.Config.R),.own 3 0 s_4.Graph.Hashes.length,.own 197 0 l28.length,.own 5 0 s_4.Slots.length]) bQ4 Z1 Z1 Z3 rfl (Nat.le_of_ble_eq_true rfl) Z9 rfl) ?_;refine fs ?_;refine AWp.reg 64 (N':=320) rfl ?_
           iterate 3 refine pA ?_
           refine aW.fin ?_;refine gZ ?_;refine bJ ?_;refine AWp.reg 64 (N':=384) rfl ?_
           iterate 2 refine pA ?_
           refine aW.fin ?_;refine fR ?_;refine ⟨_,?_,b_0,(aC.mk (aF.mk t2.Graph.Config [] []) []),(aC.mk (aF.mk s_4.Graph.Config s_4.Graph.Hashes l28) s_4.Slots),(IntKind.i64.wrap (qS+5)),t127,(IntKind.i64.wrap (t128+1)),rfl,hm⟩;exact cC (fun j=>bif j==1 then 1 else bif j==2 then 2 else bif j==3 then 3 else bif j==4 then 197 else bif j==5 then 5 else 0) (wV (wV (wV (bH _ _ (iS Z1 rfl Z7) (bH _ _ (iS Z1 rfl Z7) (wV cY)))))) (eX _ (eU cH (eU bT (eU iD (bX (iB Z3 rfl (.cons (.data _ (.v _)) (.cons (.data _ (.v _)) (.cons (.data _ (.v _)) (.cons (rO (by first|rfl|omega|(dsimp only;omega)) rfl Z7) (.cons (rO (by first|rfl|omega|(dsimp only;omega)) rfl Z7) (.cons (rO (by first|rfl|omega|(dsimp only;omega)) rfl Z7) .nil))))))) (bX (iB Z3 rfl (.cons (.data _ (.v _)) (.cons (.data _ (.v _)) (.cons (.data _ (.v _)) (.cons (.data _ (.v _)) (.cons (.data _ (.v _)) (.cons (.data _ (.v _)) .nil))))))) cM))))) Z8)
          · refine AWp.exit ?_;refine iE ?_;refine gG ?_;refine gF ?_;refine bJ ?_;refine sr (N':=192) rfl ?_;refine pu rfl (gQ Z1 Z3 Z2) ?_;refine aW.heap0 (id:=129) rfl (rP (ys:=[.v (.int .i64 s_4.Graph.Config.N),.v (.int .i64 s_4.Graph.Config.L),.v (.int .i64 s_4.Graph.Config.R),.own 3 0 s_4.Graph.Hashes.length,.own 4 0 s_4.Graph.Edges.length,.own 5 0 s_4.Slots.length]) bIj Z1 Z1 Z3 rfl (Nat.le_of_ble_eq_true rfl) Z9 rfl) ?_;refine pA ?_;refine fs ?_;refine AWp.ret ?_;cases hm;exact bCq (.inr rfl) (by rw [Tryz.results44]) (.cell (aEf Z1 Z3 Z2) (.tmp Z1 .nil)) rfl (tdt (.cons (tda rfl (.cons (.data _ (.v _)) (.cons (.data _ (.v _)) (.cons (.data _ (.v _)) (.cons (tdo iD rfl Z3 Z6) (.cons (tdo bT rfl Z3 Z6) (.cons (tdo cH rfl Z3 Z6) .nil))))))) (.cons (td rfl (.v _)) .nil)))
instance:Ct prog 44 (K1 prog vs (t2 dI vb) 44 lA):=⟨fun hm=>aM3 hm⟩
def nZ(b_0:ByteArray):Option (aC×Int):=
 ((lA b_0).bind fun ⟨r2,r3⟩=>
 (bif (!r3) then
  some ((aC.mk (aF.mk (aU.mk 0 0 0) [] []) []),12)
 else
  ((tR r2).bind fun ⟨r5,r6⟩=>
  (bif ((r6 !=0)||(!decide (r5=b_0))) then
   some ((aC.mk (aF.mk (aU.mk 0 0 0) [] []) []),12)
  else
   some (r2,0)))))
theorem aJ4{b_0:ByteArray}{r:aC×Int}(hm:nZ b_0=some r):bO prog 14 [.v (.string b_0)] (.tup [.agg [vi r.1.Graph.Config.N,vi r.1.Graph.Config.L,vi r.1.Graph.Config.R,vl bI r.1.Graph.Hashes,vl aO r.1.Graph.Edges,vl aT r.1.Slots],vi r.2]):=by
 refine bd 30 func14 ?_;refine W ?_;obtain ⟨⟨r2,r3⟩,h1,hm⟩:=bnd hm;refine cq (aM3 h1) ?_;refine W ?_;refine cm hm (fun hm=>?_) fun hm=>?_
 · refine W ?_;refine bU (.agg [vi 0,vi 0,vi 0,.v (.slice none 0 0),.v (.slice none 0 0),.v (.slice none 0 0)]) ?_;exact E
 refine W ?_;obtain ⟨⟨r5,r6⟩,h4,hm⟩:=bnd hm;refine cq (aKa h4) ?_;refine W ?_;refine cm hm (fun hm=>?_) fun hm=>?_
 · refine W ?_;refine bU (.agg [vi 0,vi 0,vi 0,.v (.slice none 0 0),.v (.slice none 0 0),.v (.slice none 0 0)]) ?_;exact E
 exact E
instance:Ct prog 14 (K1 prog vs (t2 dI vi) 14 nZ):=⟨fun hm=>aJ4 hm⟩
abbrev gS(s_4:aC)(t8:aC)(bS3:Int):Option (aC×Int):=
 some (s_4,bS3)
def iH(s_0:aC)(c_1:bD)(u_2:Int)(v_3:Int):Option (aC×Int):=
 (bif (c_1.Do==1) then
  ((aBy s_0.Slots c_1.A).bind fun ⟨r2,r3,r4⟩=>
  gS (aC.mk s_0.Graph r2) (aC.mk (aF.mk (aU.mk 0 0 0) [] []) []) r4)
 else
  (bif (c_1.Do==2) then
   ((nP s_0 u_2).bind fun r6=>
   (bif (decide (0<r6)) then
    some (s_0,11)
   else
    ((tB s_0.Slots c_1.A).bind fun ⟨r8,r9⟩=>
    gS (aC.mk s_0.Graph r8) (aC.mk (aF.mk (aU.mk 0 0 0) [] []) []) r9)))
  else
   (bif (c_1.Do==3) then
    ((sY s_0.Graph u_2 v_3).bind fun ⟨r11,r12⟩=>
    gS (aC.mk r11 s_0.Slots) (aC.mk (aF.mk (aU.mk 0 0 0) [] []) []) r12)
   else
    (bif (c_1.Do==4) then
     (bif (u_2==v_3) then
      some (s_0,9)
     else
      ((sX s_0.Graph u_2 v_3).bind fun ⟨r14,r15⟩=>
      gS (aC.mk r14 s_0.Slots) (aC.mk (aF.mk (aU.mk 0 0 0) [] []) []) r15))
    else
     (bif (c_1.Do==15) then
      ((nZ c_1.Text).bind fun ⟨r17,r18⟩=>
      some (r17,r18))
     else
      gS s_0 (aC.mk (aF.mk (aU.mk 0 0 0) [] []) []) 0)))))
theorem aSk:K4 prog dI qO vi vi (t2 dI vi) 41 iH:=fun hm=>be 76 func41 (h:=G)
instance:Ct prog 41 (K4 prog dI qO vi vi (t2 dI vi) 41 iH):=⟨aSk⟩
def eG(s_0:aC)(c_1:bD):Option (aC×GA):=
 ((fX (((decide (c_1.Do<1))||(decide (15<c_1.Do)))==false) false (lC s_0)).bind fun r2=>
 (bif (((decide (c_1.Do<1))||(decide (15<c_1.Do)))||(!r2)) then
  some (s_0,(GA.i 36 .i64 1))
 else
  ((qP s_0.Slots c_1.A).bind fun ⟨r4,r5⟩=>
  ((qP s_0.Slots c_1.B).bind fun ⟨r7,r8⟩=>
  ((rD c_1.Do).bind fun r10=>
  ((fX ((r10&&(!r5))==false) false (rE c_1.Do)).bind fun r12=>
  (bif ((r10&&(!r5))||(r12&&(!r8))) then
   some (s_0,(GA.i 36 .i64 7))
  else
   (bif ((decide (4<c_1.Do))&&(c_1.Do !=15)) then
    ((eK s_0 c_1.Do r4 r7).bind fun r14=>
    some (s_0,r14))
   else
    ((iH s_0 c_1 r4 r7).bind fun ⟨r16,r17⟩=>
    (bif (r17 !=0) then
     some (s_0,(GA.i 36 .i64 r17))
    else
     some (r16,(GA.i 36 .i64 0))))))))))))
theorem aDx:K2 prog dI qO (t2 dI GA.av) 12 eG:=fun hm=>be 91 func12 (h:=G)
instance:Ct prog 12 (K2 prog dI qO (t2 dI GA.av) 12 eG):=⟨aDx⟩
def aFq(s_0:aH)(c_1:bD):Option (aH×ByteArray):=
 (bif (!s_0.On) then
  ((jD (GA.i 36 .i64 3)).bind fun r2=>
  some (s_0,r2))
 else
  ((eG s_0.State c_1).bind fun ⟨r4,r5⟩=>
  ((jD r5).bind fun r7=>
  some ((aH.mk r4 s_0.Words s_0.On),r7))))
theorem aLv{s_0:aH}{c_1:bD}{r:aH×ByteArray}(hm:aFq s_0 c_1=some r):bO prog 62 [.agg [vi s_0.State.Graph.Config.N,vi s_0.State.Graph.Config.L,vi s_0.State.Graph.Config.R,vl bI s_0.State.Graph.Hashes,vl aO s_0.State.Graph.Edges,vl aT s_0.State.Slots,vl (ci .u64) s_0.Words.List,vi s_0.Words.At,vb s_0.On],.agg [vi c_1.Do,vu c_1.A,vu c_1.B,.v (.string c_1.Text)]] (.tup [.agg [vi r.1.State.Graph.Config.N,vi r.1.State.Graph.Config.L,vi r.1.State.Graph.Config.R,vl bI r.1.State.Graph.Hashes,vl aO r.1.State.Graph.Edges,vl aT r.1.State.Slots,vl (ci .u64) r.1.Words.List,vi r.1.Words.At,vb r.1.On],.v (.string r.2)]):=by
 refine bd 26 func62 ?_;refine W ?_;refine cm hm (fun hm=>?_) fun hm=>?_
 · obtain ⟨r2,h1,hm⟩:=bnd hm;refine W ?_;refine cq (jW h1) ?_;exact E
 refine W ?_;obtain ⟨⟨r4,r5⟩,h3,hm⟩:=bnd hm;refine cq (aDx h3) ?_;obtain ⟨r7,h6,hm⟩:=bnd hm;refine W ?_;refine cq (jW h6) ?_;exact E
instance:Ct prog 62 (K2 prog kQ qO (t2 kQ vs) 62 aFq):=⟨fun hm=>aLv hm⟩
def aF3(rec2:Int→ByteArray→Nat→Option (Int×Int))(n_6:Int)(t33s:ByteArray)(t33p:Nat):Option (Int×Int):=
 (bif (decide (t33p<t33s.size)) then
  (bif (decide ((IntKind.u64.wrap (Int.tdiv (IntKind.u64.wrap (18446744073709551615-(IntKind.u64.wrap (IntKind.i32.wrap ((((Utf8.decode t33s t33p).1:Nat):Int)-48))))) 10))<n_6)) then
   some (0,6)
  else
   rec2 (IntKind.u64.wrap ((IntKind.u64.wrap (n_6*10))+(IntKind.u64.wrap (IntKind.i32.wrap ((((Utf8.decode t33s t33p).1:Nat):Int)-48))))) t33s (t33p+(Utf8.decode t33s t33p).2))
 else
  some (n_6,0))
def aA2:Nat→Int→ByteArray→Nat→Option (Int×Int)
 |0=>fun _ _ _=>none
 |n+1=>aF3 (aA2 n)
def aF2(rec1:ByteArray→ByteArray→Nat→Option (Int×Int))(eQ:ByteArray)(t22s:ByteArray)(t22p:Nat):Option (Int×Int):=
 (bif (decide (t22p<t22s.size)) then
  (bif ((decide ((((Utf8.decode t22s t22p).1:Nat):Int)<48))||(decide (57<(((Utf8.decode t22s t22p).1:Nat):Int)))) then
   some (0,2)
  else
   rec1 eQ t22s (t22p+(Utf8.decode t22s t22p).2))
 else
  aA2 bC 0 eQ 0)
def aA1:Nat→ByteArray→ByteArray→Nat→Option (Int×Int)
 |0=>fun _ _ _=>none
 |n+1=>aF2 (aA1 n)
def aCc(eQ:ByteArray):Option (Int×Int):=
 ((fX ((decide (eQ=⟨#[]⟩))==false) 0 (aPh eQ 0)).bind fun b2=>
 (bif ((decide (eQ=⟨#[]⟩))||((b2==48)&&(!decide (eQ=⟨#[48]⟩)))) then
  some (0,2)
 else
  aA1 bC eQ eQ 0))
theorem aOe{eQ:ByteArray}{r:Int×Int}(hm:aCc eQ=some r):bO prog 110 [.v (.string eQ)] (.tup [.v (.int .u64 r.1),.v (.int .i64 r.2)]):=by
 refine bO.of_body func110 rfl ?_;simp only [ntmps110,List.length_cons,List.length_nil,Nat.reduceAdd,Nat.reduceSub,gD];unfold aCc at hm;refine sr (N':=64) rfl ?_
 iterate 2 refine pA ?_
 refine fs ?_;refine AWp.seq' ?_;refine sr (N':=128) rfl ?_
 iterate 4 first|refine pA ?_|refine pB ?_
 obtain ⟨b2,h1,hm⟩:=bnd hm;refine pg rfl rfl Z2 (fun hb=>(aPk underlying9 (Zh hb) (Zh hb) (gN h1 hb))) ?_
 iterate 6 first|refine pA ?_|refine pB ?_
 refine fs ?_;refine AWp.condM hm Z1 (fun _ hm=>?_) (fun _ hm=>?_)
 ·
  refine sr (N':=192) rfl ?_
  iterate 2 refine pA ?_
  refine fs ?_;refine AWp.ret ?_;refine hZ ?_;cases hm;exact aE8 (.inr rfl) Tryz.results110 (td Z1 (.v _)) (td Z1 (.v _))
 ·
  refine AWp.skip ?_;refine bJ ?_;refine AWp.seq' ?_;refine sr (N':=192) rfl ?_;refine pA ?_;refine hp (id:=129) rfl rfl (aGi underlying9 Z1 Z5) ?_;refine fs ?_;refine AWp.block ?_;refine AWp.loopM (fun m s=> ∃(eQ:ByteArray) (t22s:ByteArray) (t22p:Nat),s=(⟨50,(aE (aE (fun _=>AV.any) 0 (.v (.string eQ))) 22 (.adr 1 0)),⟨(upd aZ 1 (.iter t22s t22p)),64⟩⟩:St)∧aA1 m eQ t22s t22p=some r) bC ?_ ?_ ?_
  · rintro s ⟨_,_,_,_,h⟩;cases h
  · refine ⟨_,?_,eQ,eQ,0,rfl,hm⟩;exact cC (fun j=>bif j==1 then 129 else 0) (bH _ _ (iS Z1 rfl Z7) (wV cY)) (hW (bX (iX Z3) cM))
  ·
   rintro n1 s ⟨eQ,t22s,t22p,rfl,hm⟩;replace hm:aF2 (aA1 n1) eQ t22s t22p=some r:=hm;unfold aF2 at hm;refine sr (N':=128) rfl ?_;refine aX3 hm (fun h3 hm=>?_) (fun h3 hm=>?_)
   ·
    refine hp (id:=64) rfl rfl (aAp Z1 Z3 (of_decide_eq_true h3)) ?_;refine pA ?_;refine fs ?_;refine AWp.seq' ?_;refine AWp.condT Z1 ?_;refine AWp.skip ?_;refine bJ ?_;refine AWp.block ?_;refine sr (N':=192) rfl ?_
    iterate 2 refine pA ?_
    refine fs ?_;refine sr (N':=256) rfl ?_
    iterate 6 first|refine pA ?_|refine pB ?_
    refine fs ?_;refine AWp.condM hm Z1 (fun _ hm=>?_) (fun _ hm=>?_)
    ·
     refine sr (N':=320) rfl ?_
     iterate 2 refine pA ?_
     refine fs ?_;refine AWp.ret ?_;refine sK ?_;refine tG ?_;refine sK ?_;refine hZ ?_;cases hm;exact aE8 (.inr rfl) Tryz.results110 (td Z1 (.v _)) (td Z1 (.v _))
    · refine AWp.skip ?_;refine gZ ?_;refine fR ?_;refine ⟨_,?_,eQ,t22s,(t22p+(Utf8.decode t22s t22p).2),rfl,hm⟩;exact cC (fun j=>bif j==1 then 1 else 0) (bH _ _ (iS Z1 rfl Z7) (wV cY)) (hW (bX (iX Z3) cM))
   ·
    refine hp (id:=64) rfl rfl (aCr Z1 Z3 (of_decide_eq_false h3)) ?_;refine pA ?_;refine fs ?_;refine AWp.seq' ?_;refine AWp.condF Z1 ?_;refine AWp.exit ?_;refine iE ?_;refine gG ?_;refine gF ?_;refine bJ ?_;refine sr (N':=192) rfl ?_;refine pA ?_;refine fs ?_;refine AWp.seq' ?_;refine sr (N':=256) rfl ?_;refine pA ?_;refine hp (id:=193) rfl rfl (aGi underlying9 Z1 Z5) ?_;refine fs ?_;refine AWp.block ?_;refine AWp.loopM (fun m s=> ∃(n_6:Int) (t33s:ByteArray) (t33p:Nat),s=(⟨50,(aE (aE (fun _=>AV.any) 6 (.v (.int .u64 n_6))) 33 (.adr 1 0)),⟨(upd aZ 1 (.iter t33s t33p)),64⟩⟩:St)∧aA2 m n_6 t33s t33p=some r) bC ?_ ?_ ?_
    · rintro s ⟨_,_,_,_,h⟩;cases h
    · refine ⟨_,?_,0,eQ,0,rfl,hm⟩;exact cC (fun j=>bif j==1 then 193 else 0) (bH _ _ (iS Z1 rfl Z7) (wV cY)) (hW (bX (iX Z3) cM))
    ·
     rintro n2 s ⟨n_6,t33s,t33p,rfl,hm⟩;replace hm:aF3 (aA2 n2) n_6 t33s t33p=some r:=hm;unfold aF3 at hm;refine sr (N':=128) rfl ?_;refine aX3 hm (fun h4 hm=>?_) (fun h4 hm=>?_)
     ·
      refine hp (id:=64) rfl rfl (aAp Z1 Z3 (of_decide_eq_true h4)) ?_;refine pA ?_;refine fs ?_;refine AWp.seq' ?_;refine AWp.condT Z1 ?_;refine AWp.skip ?_;refine bJ ?_;refine AWp.block ?_;refine sr (N':=192) rfl ?_
      iterate 2 refine pA ?_
      refine fs ?_;refine sr (N':=256) rfl ?_
      iterate 4 refine pA ?_
      refine fs ?_;refine AWp.seq' ?_;refine sr (N':=320) rfl ?_
      iterate 5 refine pu rfl Zj ?_
      refine fs ?_;refine AWp.condM hm Z1 (fun _ hm=>?_) (fun _ hm=>?_)
      ·
       refine sr (N':=384) rfl ?_
       iterate 2 refine pA ?_
       refine fs ?_;refine AWp.ret ?_;refine hZ ?_;refine sK ?_;refine tG ?_;refine sK ?_;refine hZ ?_;cases hm;exact aE8 (.inr rfl) Tryz.results110 (td Z1 (.v _)) (td Z1 (.v _))
      ·
       refine AWp.skip ?_;refine bJ ?_;refine AWp.reg 64 (N':=384) rfl ?_
       iterate 5 refine pA ?_
       refine aW.fin ?_;refine gZ ?_;refine fR ?_;refine ⟨_,?_,(IntKind.u64.wrap ((IntKind.u64.wrap (n_6*10))+(IntKind.u64.wrap (IntKind.i32.wrap ((((Utf8.decode t33s t33p).1:Nat):Int)-48))))),t33s,(t33p+(Utf8.decode t33s t33p).2),rfl,hm⟩;exact cC (fun j=>bif j==1 then 1 else 0) (bH _ _ (iS Z1 rfl Z7) (wV cY)) (hW (bX (iX Z3) cM))
     ·
      refine hp (id:=64) rfl rfl (aCr Z1 Z3 (of_decide_eq_false h4)) ?_;refine pA ?_;refine fs ?_;refine AWp.seq' ?_;refine AWp.condF Z1 ?_;refine AWp.exit ?_;refine iE ?_;refine gG ?_;refine gF ?_;refine bJ ?_;refine sr (N':=192) rfl ?_
      iterate 3 refine pA ?_
      refine fs ?_;refine AWp.ret ?_;cases hm;exact aE8 (.inr rfl) Tryz.results110 (td Z1 (.v _)) (td Z1 (.v _))
instance:Ct prog 110 (K1 prog vs (t2 vu vi) 110 aCc):=⟨fun hm=>aOe hm⟩
def aNd(rec1:List Int→List ByteArray→Int→Int→Option ((List Int)×Int))(aR9:List Int)(t9:List ByteArray)(t10:Int)(t11:Int):Option ((List Int)×Int):=
 (bif (decide (t11<t10)) then
  ((idx t9 t11).bind fun x2=>
  ((aCc x2).bind fun ⟨r4,r5⟩=>
  (bif (r5 !=0) then
   some ([],r5)
  else
   ((app aR9 [r4]).bind fun l7=>
   rec1 l7 t9 t10 (IntKind.i64.wrap (t11+1))))))
 else
  some (aR9,0))
def wZ:Nat→List Int→List ByteArray→Int→Int→Option ((List Int)×Int)
 |0=>fun _ _ _ _=>none
 |n+1=>aNd (wZ n)
def zJ(aG3:List ByteArray):Option ((List Int)×Int):=
 wZ bC [] aG3 (aG3.length:Int) 0
theorem aGa{aG3:List ByteArray}{r:(List Int)×Int}(hm:zJ aG3=some r):bO prog 63 [vl qX aG3] (.tup [vl (ci .u64) r.1,vi r.2]):=by
 refine bd 29 func63 ?_;refine W ?_;refine lp (fun m s=> ∃aR9 t9 t10 t11,s=⟨29,(aE (aE (aE (aE fa 4 (.own 1 0 aR9.length)) 9 (vl qX t9)) 10 (vi t10)) 11 (vi t11)),⟨(upd aZ 1 (.cells 1 (aR9.flatMap (ci .u64)) 0)),64⟩⟩∧wZ m aR9 t9 t10 t11=some r) ?_ ?_
 · refine ⟨_,?_,[],aG3,(aG3.length:Int),0,rfl,hm⟩;refine St.Le.trans (rQ 4 900004 1 Z1 Z5) ?_;exact cn (fun j=>bif j==1 then 900004 else 0)
 rintro n1 s ⟨aR9,t9,t10,t11,rfl,hm⟩;refine W ?_;refine cm hm (fun hm=>?_) fun hm=>?_
 ·
  obtain ⟨x2,h1,hm⟩:=bnd hm;refine W ?_;obtain ⟨⟨r4,r5⟩,h3,hm⟩:=bnd hm;refine cq (aOe h3) ?_;refine W ?_;refine cm hm (fun hm=>?_) fun hm=>?_
  · exact E
  refine W ?_;refine aL (CFi .u64) [r4] ?_;obtain ⟨l7,h6,hm⟩:=bnd hm;refine W ?_;exact Lr (fun j=>bif j==1 then 323 else 0)
 exact E
instance:Ct prog 63 (K1 prog (vl qX) (t2 (vl (ci .u64)) vi) 63 zJ):=⟨fun hm=>aGa hm⟩
def oW(w_0:aR):Option (Bool):=
 some ((decide (0≤w_0.At))&&(decide (w_0.At≤(w_0.List.length:Int))))
theorem aO6:K1 prog kC vb 73 oW:=fun hm=>be 14 func73 (h:=G)
instance:Ct prog 73 (K1 prog kC vb 73 oW):=⟨aO6⟩
attribute [local semireducible] bC
end Go.Proofs.YtkdohhmacfoolaaGreatDoor
